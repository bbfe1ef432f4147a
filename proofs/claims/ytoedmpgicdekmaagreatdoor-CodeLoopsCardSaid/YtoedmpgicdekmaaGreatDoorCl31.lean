/- Parts of the proof. -/
import Derived.Test.YtoedmpgicdekmaaGreatDoorCl00
import Derived.Test.YtoedmpgicdekmaaGreatDoorCl30
import Derived.Test.YtoedmpgicdekmaaGreatDoorCl26
set_option maxRecDepth 100000
set_option maxHeartbeats 8000000
set_option linter.unusedVariables false
set_option linter.unusedSimpArgs false
set_option linter.unusedSectionVars false
namespace Go.Proofs.YtoedmpgicdekmaaGreatDoor
open Go.Proofs.Tryz
section
open Go.RowKit
theorem td (n:Int) (a:World) (F:0<=n) (A:n<=100000000000):Calls prog 87 #[.int .i64 n] a λe w'=>e= .returned (.int .i64 (lW n))/\a=w':=by
 have d:(n+127).tdiv 128=(n+127)/128:=jm Qa;have z:IntKind.i64.wrap (n+128)=n+128:=Qc
 have y:IntKind.i64.wrap (n+128-1)=n+127:=Qc
 have w:IntKind.i64.wrap ((n+127)/128)=(n+127)/128:=Qc
 have u:IntKind.i64.wrap ((n+127)/128*128)=(n+127)/128*128:=Qc
 have o:=G (show lW n=(n+127)/128*128 from rfl);go_enter func87,ntmps87;go_wp2_with fail;go_ret;exact⟨by rw[o.out];first|rfl|(simp[d];done),rfl⟩
theorem Fx {n:Int} (a:0<=n):n<=lW n/\lW n<=n+127:=by unfold lW;omega
theorem uL (A B:Option Addr) (n c m z:Nat) (d e:Int) (o:World) (ag:n<=1000000000) (ah:m<=1000000000) (ac:0<=d) (ab:d<=1000000):Calls prog 85 #[.agg #[.slice A n c, .slice B m z, .int .i64 d, .int .i64 e]] o λe w'=>e= .returned (.int .i64 (lW (lW n+m+d)))/\au o w':=by
 have u1:=Fx (n:=n) Qa;obtain⟨u2,u3⟩:=u1;have J:=G (λW=>td n W Qa Qa);obtain⟨U,a⟩: ∃U,lW (n:Int)=U:=⟨_,rfl⟩
 rw[a]at u2 u3 J;have Z:=G (λW=>td (U+m+d) W Qa Qa);rw[a];have af:IntKind.i64.wrap (U+(m:Int))=U+m:=Qc
 have ad:IntKind.i64.wrap (U+(m:Int)+d)=U+m+d:=Qc
 have X:=G (aa o (.cells #[.slice A n c, .slice B m z, .int .i64 d, .int .i64 e] 38));have K:=G (aq o 38 #[.slice A n c, .slice B m z, .int .i64 d, .int .i64 e]);clear a;go_enter func85,ntmps85
 go_upto_region 1 with fail
 generalize World.alloc o _=ai at*;refine aB 13 1 [(3,λv=>v= .int .i64 U,λ_ _=>True),(11,λv=>v= .int .i64 (lW (U+m+d)),λ_ _=>True)] mixed Qb ⟨λ_ _ _ _ _=>trivial,λ_ _ _ _ _=>trivial,trivial⟩ ?_;repeat (refine sx ?_ (λH a=> ?_) ?_;rotate_left;(focus have M:=(K.out.ext a.un).cell;clear a;go_simp<;>with_reducible rfl);simp only[bA,bx,bw,br,bo])
 refine so (λu a w R y=> ?_) ?_
 ·clear w a;go_simp;refine(J.out u).mono ?_;rintro e F ⟨rfl,rfl⟩;exact y _ _ (aG _) rfl trivial
 rintro _ rfl;simp only[bA,bx,bw,br,bo];repeat (refine sx ?_ (λH a=> ?_) ?_;rotate_left;(focus have M:=(K.out.ext a.un).cell;clear a;go_simp<;>with_reducible rfl);simp only[bA,bx,bw,br,bo])
 refine so (λu a w R y=> ?_) ?_
 ·clear w a;go_simp;refine(Z.out u).mono ?_;rintro e F ⟨rfl,rfl⟩;exact y _ _ (aG _) rfl trivial
 rintro _ rfl;simp only[bA,bx,bw,br,bo];repeat (refine sx ?_ (λH a=> ?_) ?_;rotate_left;(focus go_simp<;>with_reducible rfl);simp only[bA,bx,bw,br,bo])
 intro F I _;simp only[ae,aw];have V:=G (X.out.trans I.un);clear I;go_wp2_with fail;go_ret;exact⟨rfl,V.out⟩
theorem Sl.at4 {d:World} {h:Option Addr} {c:Nat} {l:List UInt8} (u:Sl d h c l) (j:Nat) (o:j+4<=l.length): ∃b a,h=some ⟨b,a,none⟩/\vu d b (a+j) l[j] l[j+1] l[j+2] l[j+3]:=by
 rcases u.rd with rfl|⟨b,a,ha,hb,hc⟩
 ·simp at o
 ·exact⟨b,a,ha,hb,hc j Qa,hc (j+1) Qa,hc (j+2) Qa,hc (j+3) Qa⟩
theorem uQ {l:List UInt8} {j:Nat} (a:j+4<=l.length):j4 (l.drop j)=((fH l[j] l[j+1] l[j+2] l[j+3]).isSome&&j4 (l.drop (j+4))):=by
 rw[ap (show j<l.length by omega),ap (show j+1<l.length by omega),ap (show j+1+1<l.length by omega),ap (show j+1+1+1<l.length by omega),j4]
def py.val (A B:Option Addr) (c d:Nat) (f:py):Value:= .agg #[.slice A f.code.length c, .slice B f.data.length d, .int .i64 f.zero, .int .i64 f.entry]
theorem mU (f:py) (I B:Option Addr) (c M:Nat) (A:World) (az:FT A) (ab:Sl A I c f.code) (av:f.code.length<=1000000000) (aw:f.data.length<=1000000000):Calls prog 41 #[f.val I B c M] A λe w'=>e= .returned (.bool (gv f))/\au A w':=by
 obtain⟨code,ad,d,en⟩:=f;unfold py.val;simp only at*;have aV:=G ab;have aZ:=G az;have u:=G (show gv ⟨code,ad,d,en⟩=(decide (4<=code.length)&&(decide (code.length%4=0)&&(decide (0<=en)&&(decide (en<code.length)&&(decide (en.tmod 4=0)&&(decide (0<=d)&&(decide (d<=3072)&&(decide (lW (lW code.length+ad.length+d)<=3072)&&j4 code))))))))from rfl);generalize gv ⟨code,ad,d,en⟩=w at*;have aX:=G (show code.length=code.length from rfl);have aY: ∀l:Nat,code.length=l->Hid (code.length=l):=λl aU=>G aU;obtain⟨n,H⟩: ∃n,code.length=n:=⟨_,rfl⟩
 obtain⟨m,ac⟩: ∃m,ad.length=m:=⟨_,rfl⟩
 have aL:=G H;rw[H,ac]at u;rw[H]at av;rw[ac]at aw;rw[H,ac];have aT:=ab.le;have a6:=ab.max;rw[H]at aT;have ay:=aa A (.cells #[.slice I n c, .slice B m M, .int .i64 d, .int .i64 en] 38);have z:=G ay;have Z:=G (aq A 38 #[.slice I n c, .slice B m M, .int .i64 d, .int .i64 en]);clear ab az H ac ay aY aX;go_enter func41,ntmps41
 go_upto_region 1 with fail
 generalize World.alloc A _=a9 at*;have R:=Z.out.cell;by_cases h1:n<4
 ·have aI:(n:Int)<4:=Qa
  have o:=G (show w=false by rw[u.out];simp;omega);go_wp2_with fail;go_ret;exact⟨by rw[o.out];rfl,z.out⟩
 have aI: ¬(n:Int)<4:=Qa
 by_cases h2:n%4=0
 rotate_left
 ·have aH:((n:Int)%4==0)=false:=Qn.2 Qa;have o:=G (show w=false by rw[u.out];simp;omega);go_wp2_with fail;go_ret;exact⟨by rw[o.out];rfl,z.out⟩
 have aH:((n:Int)%4==0)=true:=beq_iff_eq.2 Qa;by_cases h3:0<=en
 rotate_left
 ·have aG:en<0:=Qa
  have o:=G (show w=false by rw[u.out];simp;omega);go_wp2_with fail;go_ret;exact⟨by rw[o.out];rfl,z.out⟩
 obtain⟨en,rfl⟩:=aW h3;have aG: ¬(en:Int)<0:=Qa
 have aJ:=G (show(en:Int).tmod 4=(en:Int)%4 from Int.tmod_eq_emod_of_nonneg Qa);rw[aJ.out]at u;by_cases K:(en:Int)<(n:Int)
 rotate_left
 ·have aF:(n:Int)<=(en:Int):=Qa
  have o:=G (show w=false by rw[u.out];simp;omega);go_wp2_with fail;go_ret;exact⟨by rw[o.out];rfl,z.out⟩
 have aF: ¬(n:Int)<=(en:Int):=Qa
 by_cases F:(en:Int)%4=0
 rotate_left
 ·have aE:((en:Int)%4==0)=false:=Qn.2 F;have o:=G (show w=false by rw[u.out];simp[F]);go_wp2_with fail;go_ret;exact⟨by rw[o.out];rfl,z.out⟩
 have aE:((en:Int)%4==0)=true:=beq_iff_eq.2 F;replace F:=G F;by_cases h6:0<=d
 rotate_left
 ·have aC:d<0:=Qa
  have o:=G (show w=false by rw[u.out];simp;omega);go_wp2_with fail;go_ret;exact⟨by rw[o.out];rfl,z.out⟩
 have aC: ¬d<0:=Qa
 by_cases h7:d<=3072
 rotate_left
 ·have aB:3072<d:=Qa
  have o:=G (show w=false by rw[u.out];simp;omega);go_wp2_with fail;go_ret;exact⟨by rw[o.out];rfl,z.out⟩
 have aB: ¬3072<d:=Qa
 have af:=G (λW=>uL I B n c m M d en W av aw h6 Qa);by_cases h8:lW (lW n+m+d)<=3072
 rotate_left
 ·have aA:3072<lW (lW n+m+d):=Qa
  have o:=G (show w=false by rw[u.out];simp;omega);generalize lW (lW n+m+d)=U at*;go_wp2_with (go_at_call 85;refine(af.out _).mono ?_;rintro e aR ⟨rfl,y⟩;have ae:=G (z.out.trans y);clear af R y);go_ret;exact⟨by rw[o.out];rfl,ae.out⟩
 have aA: ¬3072<lW (lW n+m+d):=Qa
 have o:=G (show w=j4 code by rw[u.out];simp[h2,h3,K,F.out,h6,h7,h8];omega);generalize lW (lW n+m+d)=U at*;clear u
 go_upto_region 5 with(go_at_call 85;refine(af.out _).mono ?_;rintro e aR ⟨rfl,y⟩;have ae:=G (z.out.trans y);replace Z:=G (Z.out.ext y);clear af R y)
 clear h1 aI aH h3 aG K aF F aE h6 aC h7 aB h8 aA aJ z;have aK:=G (show j4 (code.drop 0)=w from o.out.symm);have a3:=G h2;clear h2 o
 go_loopw [4] (λam wr=> ∃(a:Nat),am= .int .i64 (a:Int)/\Hid (a<=n/\a%4=0)/\Hid (au A wr)/\Hid (aM wr A.heap.size 38 #[.slice I n c, .slice B m M, .int .i64 d, .int .i64 en])/\Hid (j4 (code.drop a)=w)) (λam _=>n-(intOf am).toNat)
 case atStart=>exact⟨0,rfl,G ⟨aD _,rfl⟩,ae,Z,aK⟩
 case round=>
  obtain⟨a,rfl,aN,V,aP,aO⟩:=hrel;clear ae Z aK;generalize wr=J at*;have R:=aP.out.cell;by_cases hlt:a<n
  ·have aS:(a:Int)<(n:Int):=Qa
   have ax:a+4<=n:=by have:=aN.out;have:=a3.out;omega
   have ao:a+4<=code.length:=by rw[aL.out];exact ax
   obtain⟨b,an,rfl,K⟩:=(aV.out.ext V.out).at4 a ao;have ar:=G ((uQ ao).symm.trans aO.out);have ag:=G (fe b (an+a) (c-a) code[a] code[a+1] code[a+2] code[a+3] J (aZ.out.ext V.out) K Qa Qa);generalize fH code[a] code[a+1] code[a+2] code[a+3]=a4 at*;have a5:IntKind.i64.wrap ((a:Int)+4)=(a:Int)+4:=Qc
   have a8:(a:Int)+4<=(c:Int):=Qa
   have a7:a+4<=c:=Qa
   clear K ao
   cases a4 with
   |none=>
    have u:=G (show w=false by have:=ar.out;simpa using this.symm);have X:=G (show Calls prog 86 #[.slice (some ⟨b,an+a,none⟩) 4 (c-a)] J λe w'=>e= .returned (.tuple #[.agg #[.int .i64 0, .int .i64 0, .int .i64 0, .int .i64 0, .int .i64 0], .int .i64 4])/\au J w' from ag.out);clear ag;go_wp2_with (go_at_call 86;refine X.out.mono ?_;rintro e aQ ⟨rfl,y⟩;have ap:=G (V.out.trans y);clear X R y);go_ret;exact⟨by rw[u.out];rfl,ap.out.alloc' _⟩
   |some x=>
    have a1:=G (show j4 (code.drop (a+4))=w by have:=ar.out;simpa using this);obtain⟨ai,al,ak,aj,ah⟩:=x;have X:=G (show Calls prog 86 #[.slice (some ⟨b,an+a,none⟩) 4 (c-a)] J λe w'=>e= .returned (.tuple #[.agg #[.int .i64 (ai:Int), .int .i64 al, .int .i64 ak, .int .i64 aj, .int .i64 ah], .int .i64 0])/\au J w' from ag.out);clear ag ar;go_wp2_with (go_at_call 86;refine X.out.mono ?_;rintro e aQ ⟨rfl,y⟩;have ap:=G (V.out.trans (y.alloc' (.cells #[.int .i64 (ai:Int), .int .i64 al, .int .i64 ak, .int .i64 aj, .int .i64 ah] 159)));have a2:=G (aP.out.ext (y.alloc' (.cells #[.int .i64 (ai:Int), .int .i64 al, .int .i64 ak, .int .i64 aj, .int .i64 ah] 159)));clear X R y);go_roundw
    case rel=>exact⟨a+4,by go_num,G ⟨ax,by have:=aN.out.2;omega⟩,ap,a2,a1⟩
    case measure=>simp[intOf];omega
  ·have aS: ¬(a:Int)<(n:Int):=Qa
   have u:=G (show w=true by
    have:=aO.out;rw[bQ (by rw[aL.out];omega)]at this
    exact this.symm)
   go_wp2_with fail;go_ret;exact⟨by rw[u.out];rfl,V.out⟩
theorem iw (n:Int):IntKind.u8.wrap n=((b8 n).toNat:Int):=by
 unfold b8;rw[eC];simp[IntKind.wrap,IntKind.signed,IntKind.bits];omega
theorem sw {d:World} {g:Nat} {e:TypeId} {o b c h:UInt8} (a:aM d g e #[.int .u8 (o.toNat:Int), .int .u8 (b.toNat:Int), .int .u8 (c.toNat:Int), .int .u8 (h.toNat:Int)]):Sl d (some ⟨g,0,none⟩) 4 [o,b,c,h]:=
 ⟨by simp,by decide,λa=>(by cases a), .inr ⟨g,0,rfl,a.lt,λi u=>by
  rw[a.cell]
  match i,u with
  |0,_=>rfl
  |1,_=>rfl
  |2,_=>rfl
  |3,_=>rfl⟩⟩
def JK (x:dl) (e:Ending) (w':World):Prop:=(eZ x=true/\ ∃g,e= .returned (.tuple #[.slice (some ⟨g,0,none⟩) 4 4, .int .i64 0])/\Sl w' (some ⟨g,0,none⟩) 4 (kk x))\/(eZ x=false/\e= .returned (.tuple #[.slice none 0 0, .int .i64 1]))
theorem wJ (x:dl) (d:World) (I:FT d):Calls prog 74 #[x.val] d λe w'=>au d w'/\JK x e w':=by
 have y:=G (λW (z:au d W)=>mc x W (I.ext z));obtain⟨k,a,b,c,v⟩:=x;have A:=G (show kk ⟨k,a,b,c,v⟩=if(iO k).2.2.2.2.1=true then[b8 k,b8 a,b8 (v/256),b8 v]else[b8 k,b8 a,b8 b,b8 c]from rfl)
 have V:=G (show eZ ⟨k,a,b,c,v⟩=true->k<23 from λz=>by
  unfold eZ at z;simp only[an,decide_eq_true_eq]at z
  omega)
 unfold dl.val at*;simp only at*;obtain⟨L,H⟩: ∃L,eZ ⟨k,a,b,c,v⟩=L:=⟨_,rfl⟩
 have K:=G H;rw[H]at y V;clear H;have R:=aa d (.cells #[.int .i64 k, .int .i64 a, .int .i64 b, .int .i64 c, .int .i64 v] 159);have w:=G R;have M:=G (aq d 159 #[.int .i64 k, .int .i64 a, .int .i64 b, .int .i64 c, .int .i64 v]);have ag:=G I;clear I R;go_enter func74,ntmps74
 go_upto_region 1 with fail
 generalize World.alloc d _=aB at*;have J:=M.out.cell
 cases L with
 |false=>
  go_wp2_with (go_at_call 134;refine(y.out _ w.out).mono ?_;rintro e F ⟨rfl,o⟩;have u:=G (w.out.trans o);clear y o J);go_ret2;exact⟨u.out, .inr ⟨K.out,rfl⟩⟩
 |true=>
  have X:=V.out rfl
  go_upto_region 3 with(go_at_call 134;refine(y.out _ w.out).mono ?_;rintro e F ⟨rfl,o⟩;have u:=G (w.out.trans o);have ah:=G (M.out.ext o);clear y o J w M)
  have J:=ah.out.cell;obtain⟨af,ae,ad,ac,aA,ab⟩:=(ag.out.ext u.out).row k X;have az:(k:Int)<23:=Qa
  have ak:=iw (k:Int);have ao:=iw a;have am:=iw b;have al:=iw c;have aj:=iw v;have ai:=iw (v/256);generalize b8 (k:Int)=ay at*;generalize b8 a=ax at*;generalize b8 b=aw at*;generalize b8 c=av at*;generalize b8 v=ar at*;generalize b8 (v/256)=ap at*;generalize (iO k).2.2.2.2.1=Z at*;clear af ae ad ac ab
  cases Z with
  |true=>
   rw[if_pos rfl]at A;go_wp2_with fail;go_ret2;exact⟨u.out.alloc' _, .inl ⟨K.out,_,rfl,by rw[A.out];exact sw (aq F _ _)⟩⟩
  |false=>
   rw[if_neg Qd]at A;go_wp2_with fail;go_ret2;exact⟨u.out.alloc' _, .inl ⟨K.out,_,rfl,by rw[A.out];exact sw (aq F _ _)⟩⟩
end
end Go.Proofs.YtoedmpgicdekmaaGreatDoor
