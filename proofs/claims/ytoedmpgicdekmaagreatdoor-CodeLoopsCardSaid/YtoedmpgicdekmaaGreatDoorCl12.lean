/- Parts of the proof. -/
import Derived.Test.YtoedmpgicdekmaaGreatDoorCl00
import Derived.Test.YtoedmpgicdekmaaGreatDoorCl04
import Derived.Test.YtoedmpgicdekmaaGreatDoorCl05
import Derived.Test.YtoedmpgicdekmaaGreatDoorCl08
set_option maxRecDepth 100000
set_option maxHeartbeats 8000000
set_option linter.unusedVariables false
set_option linter.unusedSimpArgs false
set_option linter.unusedSectionVars false
namespace Go.Proofs.YtoedmpgicdekmaaGreatDoor
open Go.Proofs.Tryz
section
open Go.RowKit
def dG (c:UInt8):Nat->List UInt8×UInt8
 |0=>([],c)
 |j+1=>if c=([10,9,0,92,39,34]:List UInt8).getD j 0 then([92],([110,116,48,92,39,34]:List UInt8).getD j 0)else dG c j
theorem DZ (c:UInt8):(dG c 6).1++[(dG c 6).2]=uJ c:=by
 have: ∀n:Fin 256,(dG (UInt8.ofNat n.val) 6).1++[(dG (UInt8.ofNat n.val) 6).2]=uJ (UInt8.ofNat n.val):=Qk
 have a:=this ⟨c.toNat,c.toNat_lt⟩;rwa [jI]at a
theorem yz {l:List UInt8} {j:Nat} (a:j<l.length):gB (l.take (j+1))=gB (l.take j)++uJ l[j]:=by
 rw[aT a,yA];simp[gB]
theorem dO {T e:TypeId} {B b:Nat} {bs:List Value} {a w':World} (z:Lib.IsBuilder T e B b bs a) (d:au a w'):Lib.IsBuilder T e B b bs w':=by
 have key: ∀p,Lib.BuilderAt T e B b p bs a->Lib.BuilderAt T e B b p bs w':=by
  rintro p ⟨y,v,h,o,u⟩;have w:b<a.heap.size:=(Array.getElem?_eq_some_iff.1 h).1;exact⟨y,v,(d.obj w).trans h,World.ownsRow.kept o (d.grownBy none) (by cases v.ownBlock<;>simp),u⟩
 exact z.imp (key _) (key _)
theorem wR (l:List UInt8) (c:UInt8) (n:Int) (a:(c.toNat:Int)=n):Lib.byteCells l++[.int .u8 n]=Lib.byteCells (l++[c]):=by
 subst a;simp[Lib.byteCells]
theorem kD (B b:Nat) (l:List UInt8) (c:UInt8) (n:Int) (h:(c.toNat:Int)=n) (a:World) (w:Lib.IsBuilder 215 5 B b (Lib.byteCells l) a) (y:l.length<=1000000) (o:B<=a.heap.size):
  Calls prog 265 #[.pointer (some ⟨b,0,none⟩), .int .u8 n] a λe w'=>e= .returned .nilIface/\Lib.IsBuilder 215 5 B b (Lib.byteCells (l++[c])) w'/\Below B a w':=by
 refine(Tryz.Builder_WriteByte B b (Lib.byteCells l) n a w (by rw[Lib.byteCells_length];omega) o).mono ?_;rintro e w' ⟨rfl,d,u⟩;rw[wR l c n h]at d;exact⟨rfl, .inr d,u⟩
def vr (c:UInt8) (b:List UInt8) (w0:World) (j:Nat) (vc:Value) (wr:World):Prop:=
 vc= .int .u8 ((dG c j).2.toNat:Int)/\Lib.IsBuilder 215 5 w0.heap.size w0.heap.size (Lib.byteCells (b++(dG c j).1)) wr/\au w0 wr
theorem yy (l:List UInt8) (aW:l.length<=100000) (a:World):Calls prog 255 #[.string (ak l)] a λe w'=>e= .returned (.string (ak (mK l)))/\au a w':=by
 have aV:(ak l).size=l.length:=a7 l;have aA:=G (aa a (.cells #[.pointer none, .slice none 0 0] 215));have aS:=G (show Lib.IsBuilder 215 5 a.heap.size a.heap.size (Lib.byteCells []) (a.alloc (.cells #[.pointer none, .slice none 0 0] 215))from Lib.fresh_isBuilder _ _ a);go_enter func255,ntmps255;go_wp2_with (go_at_call 265;refine(kD a.heap.size a.heap.size [] 34 34 rfl _ aS.out (aD _) aA.out.size).mono ?_;rintro e ab ⟨rfl,ay,ax⟩;have aR:=G ay;have aP:=G (show au a _ from RowKit.Below.trans aA.out ax);clear ay ax)
 go_loopw [10] (λar wr=> ∃j:Nat,ar= .int .i64 (j:Int)/\j<=l.length/\Hid (Lib.IsBuilder 215 5 a.heap.size a.heap.size (Lib.byteCells (34::gB (l.take j))) wr)/\Hid (au a wr)) (λar _=>l.length-(intOf ar).toNat)
 case atStart=>exact⟨0,rfl,aD _,G (by simpa[gB]using aR.out),aP⟩
 case round=>
  obtain⟨j,rfl,aX,d,u⟩:=hrel;have aG:=u.out.size;by_cases hlt:j<l.length
  ·have aK:j<(ak l).size:=by rw[a7];exact hlt
   have aY:=nc l j aK;have aJ:(j:Int)<l.length:=Qa
   have aC:=G (yz hlt);have aj:=G (show((34::gB (l.take j)):List UInt8).length<=200001 from by have:=jd (l.take j);rw[bC]at this;simp only[ag];omega);generalize l[j]'hlt=c at*;generalize av:34::gB (l.take j)=b at*;have aM:=G (show 34::gB (l.take (j+1))=b++uJ c by rw[aC.out,<-av];rfl);clear av aC;have aN:=G (show vr c b a 0 (.int .u8 (c.toNat:Int)) wr from⟨rfl,by simpa[dG]using d.out,u.out⟩);clear d u;go_wp2_with fail
   go_loopw [5,6] (λan ah al=>(ah= .int .i64 0/\vr c b a 0 an al)\/(ah= .int .i64 2/\vr c b a 1 an al)\/(ah= .int .i64 4/\vr c b a 2 an al)\/(ah= .int .i64 6/\vr c b a 3 an al)\/(ah= .int .i64 8/\vr c b a 4 an al)\/(ah= .int .i64 10/\vr c b a 5 an al)\/(ah= .int .i64 12/\vr c b a 6 an al)) (λ_ ah _=>13-(intOf ah).toNat)
   case atStart=>exact .inl ⟨rfl,aN.out⟩
   case round=>
    rcases hrel with⟨rfl,Z⟩|⟨rfl,Z⟩|⟨rfl,Z⟩|⟨rfl,Z⟩|⟨rfl,Z⟩|⟨rfl,Z⟩|⟨rfl,Z⟩
    ·obtain⟨rfl,K,J⟩:=Z;have aq: ∀h,(⟨#[10,110,9,116,0,48,92,92,39,39,34,34]⟩:ByteArray)[0]'h=10:=λ_=>rfl;have ap: ∀h,(⟨#[10,110,9,116,0,48,92,92,39,39,34,34]⟩:ByteArray)[1]'h=110:=λ_=>rfl;have d:=G K;have u:=G J;clear K J;by_cases hd:c=10
     ·have A:((c.toNat:Int)==10)=true:=by rw[hd];rfl
      have af:((10:Int)==(c.toNat:Int))=true:=by rw[hd];rfl
      have e0:dG c 0=([],c):=by rw[hd];rfl
      have R:dG c 1=([92],110):=by rw[hd];rfl
      clear hd;rw[e0]at d⊢;simp only[eP]at d;have w:=G R;clear e0 R;go_wp2_with fail;refine aB 6 1 [] mixed Qb trivial ?_;repeat (refine sx ?_ (λab F=> ?_) ?_;rotate_left;(focus clear F;go_simp<;>with_reducible rfl);simp only[bA,bx,bw,br,bo])
      intro M o _;simp only[ae,aU];have y:=G (u.out.trans o.un);have z:=G (dO d.out o.un);have ad:=y.out.size;clear o u d;go_wp2_with (go_at_call 265;refine(kD a.heap.size a.heap.size b 92 92 rfl M z.out (by have:=aj.out;omega) ad).mono ?_;rintro e am ⟨rfl,I,H⟩;have X:=G I;have V:=G (show au a _ from RowKit.Below.trans y.out H);clear I H z);go_roundw
      case rel=>exact .inr (.inl ⟨rfl,⟨by rw[w.out];rfl,by rw[w.out];exact X.out,V.out⟩⟩)
      case measure=>simp[intOf]
     ·have A:((c.toNat:Int)==10)=false:=(ep c 10 Qa).trans (Qn.2 hd);have af:((10:Int)==(c.toNat:Int))=false:=by rw[Qn]at A⊢;exact λe=>A e.symm
      have w:=G (show dG c 1=dG c 0 from if_neg hd);generalize dG c 0=q at*;obtain⟨ao,q⟩:=q;clear hd;go_wp2_with fail;refine aB 6 1 [] mixed Qb trivial ?_;repeat (refine sx ?_ (λab F=> ?_) ?_;rotate_left;(focus clear F;go_simp<;>with_reducible rfl);simp only[bA,bx,bw,br,bo])
      intro M o _;simp only[ae,aU];have y:=G (u.out.trans o.un);have z:=G (dO d.out o.un);clear o u d;go_wp2_with fail;go_roundw
      case rel=>exact .inr (.inl ⟨rfl,⟨by rw[w.out],by rw[w.out];exact z.out,y.out⟩⟩)
      case measure=>simp[intOf]
    ·obtain⟨rfl,K,J⟩:=Z;have aq: ∀h,(⟨#[10,110,9,116,0,48,92,92,39,39,34,34]⟩:ByteArray)[2]'h=9:=λ_=>rfl;have ap: ∀h,(⟨#[10,110,9,116,0,48,92,92,39,39,34,34]⟩:ByteArray)[3]'h=116:=λ_=>rfl;have d:=G K;have u:=G J;clear K J;by_cases hd:c=9
     ·have A:((c.toNat:Int)==9)=true:=by rw[hd];rfl
      have af:((9:Int)==(c.toNat:Int))=true:=by rw[hd];rfl
      have e0:dG c 1=([],c):=by rw[hd];rfl
      have R:dG c 2=([92],116):=by rw[hd];rfl
      clear hd;rw[e0]at d⊢;simp only[eP]at d;have w:=G R;clear e0 R;go_wp2_with fail;refine aB 6 1 [] mixed Qb trivial ?_;repeat (refine sx ?_ (λab F=> ?_) ?_;rotate_left;(focus clear F;go_simp<;>with_reducible rfl);simp only[bA,bx,bw,br,bo])
      intro M o _;simp only[ae,aU];have y:=G (u.out.trans o.un);have z:=G (dO d.out o.un);have ad:=y.out.size;clear o u d;go_wp2_with (go_at_call 265;refine(kD a.heap.size a.heap.size b 92 92 rfl M z.out (by have:=aj.out;omega) ad).mono ?_;rintro e am ⟨rfl,I,H⟩;have X:=G I;have V:=G (show au a _ from RowKit.Below.trans y.out H);clear I H z);go_roundw
      case rel=>exact .inr (.inr (.inl ⟨rfl,⟨by rw[w.out];rfl,by rw[w.out];exact X.out,V.out⟩⟩))
      case measure=>simp[intOf]
     ·have A:((c.toNat:Int)==9)=false:=(ep c 9 Qa).trans (Qn.2 hd);have af:((9:Int)==(c.toNat:Int))=false:=by rw[Qn]at A⊢;exact λe=>A e.symm
      have w:=G (show dG c 2=dG c 1 from if_neg hd);generalize dG c 1=q at*;obtain⟨ao,q⟩:=q;clear hd;go_wp2_with fail;refine aB 6 1 [] mixed Qb trivial ?_;repeat (refine sx ?_ (λab F=> ?_) ?_;rotate_left;(focus clear F;go_simp<;>with_reducible rfl);simp only[bA,bx,bw,br,bo])
      intro M o _;simp only[ae,aU];have y:=G (u.out.trans o.un);have z:=G (dO d.out o.un);clear o u d;go_wp2_with fail;go_roundw
      case rel=>exact .inr (.inr (.inl ⟨rfl,⟨by rw[w.out],by rw[w.out];exact z.out,y.out⟩⟩))
      case measure=>simp[intOf]
    ·obtain⟨rfl,K,J⟩:=Z;have aq: ∀h,(⟨#[10,110,9,116,0,48,92,92,39,39,34,34]⟩:ByteArray)[4]'h=0:=λ_=>rfl;have ap: ∀h,(⟨#[10,110,9,116,0,48,92,92,39,39,34,34]⟩:ByteArray)[5]'h=48:=λ_=>rfl;have d:=G K;have u:=G J;clear K J;by_cases hd:c=0
     ·have A:((c.toNat:Int)==0)=true:=by rw[hd];rfl
      have af:((0:Int)==(c.toNat:Int))=true:=by rw[hd];rfl
      have e0:dG c 2=([],c):=by rw[hd];rfl
      have R:dG c 3=([92],48):=by rw[hd];rfl
      clear hd;rw[e0]at d⊢;simp only[eP]at d;have w:=G R;clear e0 R;go_wp2_with fail;refine aB 6 1 [] mixed Qb trivial ?_;repeat (refine sx ?_ (λab F=> ?_) ?_;rotate_left;(focus clear F;go_simp<;>with_reducible rfl);simp only[bA,bx,bw,br,bo])
      intro M o _;simp only[ae,aU];have y:=G (u.out.trans o.un);have z:=G (dO d.out o.un);have ad:=y.out.size;clear o u d;go_wp2_with (go_at_call 265;refine(kD a.heap.size a.heap.size b 92 92 rfl M z.out (by have:=aj.out;omega) ad).mono ?_;rintro e am ⟨rfl,I,H⟩;have X:=G I;have V:=G (show au a _ from RowKit.Below.trans y.out H);clear I H z);go_roundw
      case rel=>exact .inr (.inr (.inr (.inl ⟨rfl,⟨by rw[w.out];rfl,by rw[w.out];exact X.out,V.out⟩⟩)))
      case measure=>simp[intOf]
     ·have A:((c.toNat:Int)==0)=false:=(ep c 0 Qa).trans (Qn.2 hd);have af:((0:Int)==(c.toNat:Int))=false:=by rw[Qn]at A⊢;exact λe=>A e.symm
      have w:=G (show dG c 3=dG c 2 from if_neg hd);generalize dG c 2=q at*;obtain⟨ao,q⟩:=q;clear hd;go_wp2_with fail;refine aB 6 1 [] mixed Qb trivial ?_;repeat (refine sx ?_ (λab F=> ?_) ?_;rotate_left;(focus clear F;go_simp<;>with_reducible rfl);simp only[bA,bx,bw,br,bo])
      intro M o _;simp only[ae,aU];have y:=G (u.out.trans o.un);have z:=G (dO d.out o.un);clear o u d;go_wp2_with fail;go_roundw
      case rel=>exact .inr (.inr (.inr (.inl ⟨rfl,⟨by rw[w.out],by rw[w.out];exact z.out,y.out⟩⟩)))
      case measure=>simp[intOf]
    ·obtain⟨rfl,K,J⟩:=Z;have aq: ∀h,(⟨#[10,110,9,116,0,48,92,92,39,39,34,34]⟩:ByteArray)[6]'h=92:=λ_=>rfl;have ap: ∀h,(⟨#[10,110,9,116,0,48,92,92,39,39,34,34]⟩:ByteArray)[7]'h=92:=λ_=>rfl;have d:=G K;have u:=G J;clear K J;by_cases hd:c=92
     ·have A:((c.toNat:Int)==92)=true:=by rw[hd];rfl
      have af:((92:Int)==(c.toNat:Int))=true:=by rw[hd];rfl
      have e0:dG c 3=([],c):=by rw[hd];rfl
      have R:dG c 4=([92],92):=by rw[hd];rfl
      clear hd;rw[e0]at d⊢;simp only[eP]at d;have w:=G R;clear e0 R;go_wp2_with fail;refine aB 6 1 [] mixed Qb trivial ?_;repeat (refine sx ?_ (λab F=> ?_) ?_;rotate_left;(focus clear F;go_simp<;>with_reducible rfl);simp only[bA,bx,bw,br,bo])
      intro M o _;simp only[ae,aU];have y:=G (u.out.trans o.un);have z:=G (dO d.out o.un);have ad:=y.out.size;clear o u d;go_wp2_with (go_at_call 265;refine(kD a.heap.size a.heap.size b 92 92 rfl M z.out (by have:=aj.out;omega) ad).mono ?_;rintro e am ⟨rfl,I,H⟩;have X:=G I;have V:=G (show au a _ from RowKit.Below.trans y.out H);clear I H z);go_roundw
      case rel=>exact .inr (.inr (.inr (.inr (.inl ⟨rfl,⟨by rw[w.out];rfl,by rw[w.out];exact X.out,V.out⟩⟩))))
      case measure=>simp[intOf]
     ·have A:((c.toNat:Int)==92)=false:=(ep c 92 Qa).trans (Qn.2 hd);have af:((92:Int)==(c.toNat:Int))=false:=by rw[Qn]at A⊢;exact λe=>A e.symm
      have w:=G (show dG c 4=dG c 3 from if_neg hd);generalize dG c 3=q at*;obtain⟨ao,q⟩:=q;clear hd;go_wp2_with fail;refine aB 6 1 [] mixed Qb trivial ?_;repeat (refine sx ?_ (λab F=> ?_) ?_;rotate_left;(focus clear F;go_simp<;>with_reducible rfl);simp only[bA,bx,bw,br,bo])
      intro M o _;simp only[ae,aU];have y:=G (u.out.trans o.un);have z:=G (dO d.out o.un);clear o u d;go_wp2_with fail;go_roundw
      case rel=>exact .inr (.inr (.inr (.inr (.inl ⟨rfl,⟨by rw[w.out],by rw[w.out];exact z.out,y.out⟩⟩))))
      case measure=>simp[intOf]
    ·obtain⟨rfl,K,J⟩:=Z;have aq: ∀h,(⟨#[10,110,9,116,0,48,92,92,39,39,34,34]⟩:ByteArray)[8]'h=39:=λ_=>rfl;have ap: ∀h,(⟨#[10,110,9,116,0,48,92,92,39,39,34,34]⟩:ByteArray)[9]'h=39:=λ_=>rfl;have d:=G K;have u:=G J;clear K J;by_cases hd:c=39
     ·have A:((c.toNat:Int)==39)=true:=by rw[hd];rfl
      have af:((39:Int)==(c.toNat:Int))=true:=by rw[hd];rfl
      have e0:dG c 4=([],c):=by rw[hd];rfl
      have R:dG c 5=([92],39):=by rw[hd];rfl
      clear hd;rw[e0]at d⊢;simp only[eP]at d;have w:=G R;clear e0 R;go_wp2_with fail;refine aB 6 1 [] mixed Qb trivial ?_;repeat (refine sx ?_ (λab F=> ?_) ?_;rotate_left;(focus clear F;go_simp<;>with_reducible rfl);simp only[bA,bx,bw,br,bo])
      intro M o _;simp only[ae,aU];have y:=G (u.out.trans o.un);have z:=G (dO d.out o.un);have ad:=y.out.size;clear o u d;go_wp2_with (go_at_call 265;refine(kD a.heap.size a.heap.size b 92 92 rfl M z.out (by have:=aj.out;omega) ad).mono ?_;rintro e am ⟨rfl,I,H⟩;have X:=G I;have V:=G (show au a _ from RowKit.Below.trans y.out H);clear I H z);go_roundw
      case rel=>exact .inr (.inr (.inr (.inr (.inr (.inl ⟨rfl,⟨by rw[w.out];rfl,by rw[w.out];exact X.out,V.out⟩⟩)))))
      case measure=>simp[intOf]
     ·have A:((c.toNat:Int)==39)=false:=(ep c 39 Qa).trans (Qn.2 hd);have af:((39:Int)==(c.toNat:Int))=false:=by rw[Qn]at A⊢;exact λe=>A e.symm
      have w:=G (show dG c 5=dG c 4 from if_neg hd);generalize dG c 4=q at*;obtain⟨ao,q⟩:=q;clear hd;go_wp2_with fail;refine aB 6 1 [] mixed Qb trivial ?_;repeat (refine sx ?_ (λab F=> ?_) ?_;rotate_left;(focus clear F;go_simp<;>with_reducible rfl);simp only[bA,bx,bw,br,bo])
      intro M o _;simp only[ae,aU];have y:=G (u.out.trans o.un);have z:=G (dO d.out o.un);clear o u d;go_wp2_with fail;go_roundw
      case rel=>exact .inr (.inr (.inr (.inr (.inr (.inl ⟨rfl,⟨by rw[w.out],by rw[w.out];exact z.out,y.out⟩⟩)))))
      case measure=>simp[intOf]
    ·obtain⟨rfl,K,J⟩:=Z;have aq: ∀h,(⟨#[10,110,9,116,0,48,92,92,39,39,34,34]⟩:ByteArray)[10]'h=34:=λ_=>rfl;have ap: ∀h,(⟨#[10,110,9,116,0,48,92,92,39,39,34,34]⟩:ByteArray)[11]'h=34:=λ_=>rfl;have d:=G K;have u:=G J;clear K J;by_cases hd:c=34
     ·have A:((c.toNat:Int)==34)=true:=by rw[hd];rfl
      have af:((34:Int)==(c.toNat:Int))=true:=by rw[hd];rfl
      have e0:dG c 5=([],c):=by rw[hd];rfl
      have R:dG c 6=([92],34):=by rw[hd];rfl
      clear hd;rw[e0]at d⊢;simp only[eP]at d;have w:=G R;clear e0 R;go_wp2_with fail;refine aB 6 1 [] mixed Qb trivial ?_;repeat (refine sx ?_ (λab F=> ?_) ?_;rotate_left;(focus clear F;go_simp<;>with_reducible rfl);simp only[bA,bx,bw,br,bo])
      intro M o _;simp only[ae,aU];have y:=G (u.out.trans o.un);have z:=G (dO d.out o.un);have ad:=y.out.size;clear o u d;go_wp2_with (go_at_call 265;refine(kD a.heap.size a.heap.size b 92 92 rfl M z.out (by have:=aj.out;omega) ad).mono ?_;rintro e am ⟨rfl,I,H⟩;have X:=G I;have V:=G (show au a _ from RowKit.Below.trans y.out H);clear I H z);go_roundw
      case rel=>exact .inr (.inr (.inr (.inr (.inr (.inr (⟨rfl,⟨by rw[w.out];rfl,by rw[w.out];exact X.out,V.out⟩⟩))))))
      case measure=>simp[intOf]
     ·have A:((c.toNat:Int)==34)=false:=(ep c 34 Qa).trans (Qn.2 hd);have af:((34:Int)==(c.toNat:Int))=false:=by rw[Qn]at A⊢;exact λe=>A e.symm
      have w:=G (show dG c 6=dG c 5 from if_neg hd);generalize dG c 5=q at*;obtain⟨ao,q⟩:=q;clear hd;go_wp2_with fail;refine aB 6 1 [] mixed Qb trivial ?_;repeat (refine sx ?_ (λab F=> ?_) ?_;rotate_left;(focus clear F;go_simp<;>with_reducible rfl);simp only[bA,bx,bw,br,bo])
      intro M o _;simp only[ae,aU];have y:=G (u.out.trans o.un);have z:=G (dO d.out o.un);clear o u d;go_wp2_with fail;go_roundw
      case rel=>exact .inr (.inr (.inr (.inr (.inr (.inr (⟨rfl,⟨by rw[w.out],by rw[w.out];exact z.out,y.out⟩⟩))))))
      case measure=>simp[intOf]
    ·obtain⟨rfl,K,J⟩:=Z;have d:=G K;have u:=G J;have aH:=J.size;have aE:=G (DZ c);clear K J;have aI:(dG c 6).1.length<=1:=by
      have az:=congrArg List.length aE.out;have aZ:=(pg c).2;rw[ac]at az;simp only[ag,ai]at az;omega
     generalize dG c 6=q at*;obtain⟨ao,q⟩:=q;go_wp2_with (go_at_call 265;refine(kD a.heap.size a.heap.size (b++ao) q (q.toNat:Int) rfl _ d.out (by have:=aj.out;rw[ac];simp only at aI;omega) aH).mono ?_;rintro e am ⟨rfl,I,H⟩;have X:=G I;have V:=G (show au a _ from RowKit.Below.trans u.out H);clear I H d);go_roundw
     case rel=>exact⟨j+1,by go_num,by omega,G (by rw[aM.out,<-aE.out,<-aL];exact X.out),V⟩
     case measure=>simp[intOf];omega
  ·have aJ: ¬(j:Int)<l.length:=Qa
   have aF:=G (show l.take j=l from bO Qa);have aj:=G (show((34::gB l):List UInt8).length<=200001 from by have:=jd l;simp only[ag];omega);have aQ:=G (show Lib.IsBuilder 215 5 a.heap.size a.heap.size (Lib.byteCells (34::gB l)) wr from by have:=d.out;rwa [aF.out]at this);clear d aF
   go_wp2_with (first
    |(go_at_call 265;refine(kD a.heap.size a.heap.size (34::gB l) 34 34 rfl _ aQ.out (by have:=aj.out;omega) aG).mono ?_;rintro e am ⟨rfl,I,H⟩;have X:=G I;have V:=G (show au a _ from RowKit.Below.trans u.out H);clear I H)
    |(go_at_call 122;refine(Tryz.Builder_String_any a.heap.size a.heap.size _ _ X.out V.out.size).mono ?_;rintro e aT ⟨rfl,aw⟩;have aO:=G (show au a _ from RowKit.Below.trans V.out aw);clear aw))
   go_ret;exact⟨rfl,aO.out⟩
end
end Go.Proofs.YtoedmpgicdekmaaGreatDoor
