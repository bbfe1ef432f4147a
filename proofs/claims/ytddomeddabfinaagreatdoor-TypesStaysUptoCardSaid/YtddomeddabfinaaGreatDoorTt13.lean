/- Parts of the proof. -/
import Derived.Test.YtddomeddabfinaaGreatDoorTt00
import Derived.Test.YtddomeddabfinaaGreatDoorTt04
import Derived.Test.YtddomeddabfinaaGreatDoorTt05
import Derived.Test.YtddomeddabfinaaGreatDoorTt08
import Derived.Test.YtddomeddabfinaaGreatDoorTt09
set_option maxRecDepth 100000
set_option maxHeartbeats 8000000
set_option linter.unusedVariables false
set_option linter.unusedSimpArgs false
set_option linter.unusedSectionVars false
namespace Go.Proofs.YtddomeddabfinaaGreatDoor
open Go.Proofs.Tryz
section
open Go.RowKit
def dE (c:UInt8):Nat->List UInt8×UInt8
 |0=>([],c)
 |j+1=>if c=([10,9,0,92,39,34]:List UInt8).getD j 0 then([92],([110,116,48,92,39,34]:List UInt8).getD j 0)else dE c j
theorem DR (c:UInt8):(dE c 6).1++[(dE c 6).2]=oT c:=by
 have: ∀n:Fin 256,(dE (UInt8.ofNat n.val) 6).1++[(dE (UInt8.ofNat n.val) 6).2]=oT (UInt8.ofNat n.val):=Qj
 have a:=this ⟨c.toNat,c.toNat_lt⟩;rwa [fW]at a
theorem yj {l:List UInt8} {a:Nat} (h:a<l.length):fq (l.take (a+1))=fq (l.take a)++oT l[a]:=by
 rw[aX h,yk];simp[fq]
theorem dL {T e:TypeId} {B b:Nat} {bs:List Value} {a w':World} (G:Lib.IsBuilder T e B b bs a) (h:az a w'):Lib.IsBuilder T e B b bs w':=by
 have key: ∀p,Lib.BuilderAt T e B b p bs a->Lib.BuilderAt T e B b p bs w':=by
  rintro p ⟨A,v,j,o,w⟩;have z:b<a.heap.size:=(Array.getElem?_eq_some_iff.1 j).1;exact⟨A,v,(h.obj z).trans j,World.ownsRow.kept o (h.grownBy none) (by cases v.ownBlock<;>simp),w⟩
 exact G.imp (key _) (key _)
theorem v6 (l:List UInt8) (c:UInt8) (n:Int) (a:(c.toNat:Int)=n):Lib.byteCells l++[.int .u8 n]=Lib.byteCells (l++[c]):=by
 subst a;simp[Lib.byteCells]
theorem kK (B b:Nat) (l:List UInt8) (c:UInt8) (n:Int) (j:(c.toNat:Int)=n) (a:World) (z:Lib.IsBuilder 193 5 B b (Lib.byteCells l) a) (A:l.length<=1000000) (o:B<=a.heap.size):
  Calls prog 227 #[.pointer (some ⟨b,0,none⟩),.int .u8 n] a λe w'=>e=.returned .nilIface/\Lib.IsBuilder 193 5 B b (Lib.byteCells (l++[c])) w'/\Below B a w':=by
 refine(Tryz.Builder_WriteByte B b (Lib.byteCells l) n a z (by rw[Lib.byteCells_length];omega) o).mono ?_;rintro e w' ⟨rfl,h,w⟩;rw[v6 l c n j]at h;exact⟨rfl,.inr h,w⟩
def uv (c:UInt8) (b:List UInt8) (w0:World) (j:Nat) (vc:Value) (wr:World):Prop:=
 vc=.int .u8 ((dE c j).2.toNat:Int)/\Lib.IsBuilder 193 5 w0.heap.size w0.heap.size (Lib.byteCells (b++(dE c j).1)) wr/\az w0 wr
theorem yi (l:List UInt8) (a9:l.length<=100000) (a:World):Calls prog 215 #[.string (J l)] a λe w'=>e=.returned (.string (J (f_ l)))/\az a w':=by
 have a5:(J l).size=l.length:=bm l;have aK:=O (Z a (.cells #[.pointer none,.slice none 0 0] 193));have a3:=O (show Lib.IsBuilder 193 5 a.heap.size a.heap.size (Lib.byteCells []) (a.alloc (.cells #[.pointer none,.slice none 0 0] 193))from Lib.fresh_isBuilder _ _ a);go_enter func215,ntmps215;go_wp2_with (go_at_call 227;refine(kK a.heap.size a.heap.size [] 34 34 rfl _ a3.out (aI _) aK.out.size).mono ?_;rintro e an ⟨rfl,aH,aG⟩;have a2:=O aH;have aX:=O (show az a _ from RowKit.Below.trans aK.out aG);clear aH aG)
 go_loopw [10] (λaD wr=> ∃ag:Nat,aD=.int .i64 (ag:Int)/\ag<=l.length/\Hid (Lib.IsBuilder 193 5 a.heap.size a.heap.size (Lib.byteCells (34::fq (l.take ag))) wr)/\Hid (az a wr)) (λaD _=>l.length-(intOf aD).toNat)
 case atStart=>exact⟨0,rfl,aI _,O (by simpa[fq]using a2.out),aX⟩
 case round=>
  obtain⟨ag,rfl,ba,j,w⟩:=hrel;have aO:=w.out.size;by_cases hlt:ag<l.length
  ·have aT:ag<(J l).size:=by rw[bm];exact hlt
   have bb:=nh l ag aT;have aS:(ag:Int)<l.length:=Qa
   have aL:=O (yj hlt);have au:=O (show((34::fq (l.take ag)):List UInt8).length<=200001 from by have:=jg (l.take ag);rw[bN]at this;simp only[ah];omega);generalize l[ag]'hlt=c at*;generalize aE:34::fq (l.take ag)=b at*;have aU:=O (show 34::fq (l.take (ag+1))=b++oT c by rw[aL.out,<-aE];rfl);clear aE aL;have aV:=O (show uv c b a 0 (.int .u8 (c.toNat:Int)) wr from⟨rfl,by simpa[dE]using j.out,w.out⟩);clear j w;go_wp2_with fail
   go_loopw [5,6] (λax ar av=>(ar=.int .i64 0/\uv c b a 0 ax av)\/(ar=.int .i64 2/\uv c b a 1 ax av)\/(ar=.int .i64 4/\uv c b a 2 ax av)\/(ar=.int .i64 6/\uv c b a 3 ax av)\/(ar=.int .i64 8/\uv c b a 4 ax av)\/(ar=.int .i64 10/\uv c b a 5 ax av)\/(ar=.int .i64 12/\uv c b a 6 ax av)) (λ_ ar _=>13-(intOf ar).toNat)
   case atStart=>exact .inl ⟨rfl,aV.out⟩
   case round=>
    rcases hrel with⟨rfl,al⟩|⟨rfl,al⟩|⟨rfl,al⟩|⟨rfl,al⟩|⟨rfl,al⟩|⟨rfl,al⟩|⟨rfl,al⟩
    ·obtain⟨rfl,I,X⟩:=al;have aC: ∀h,(⟨#[10,110,9,116,0,48,92,92,39,39,34,34]⟩:ByteArray)[0]'h=10:=λ_=>rfl;have aA: ∀h,(⟨#[10,110,9,116,0,48,92,92,39,39,34,34]⟩:ByteArray)[1]'h=110:=λ_=>rfl;have j:=O I;have w:=O X;clear I X;by_cases hd:c=10
     ·have K:((c.toNat:Int)==10)=true:=by rw[hd];rfl
      have ap:((10:Int)==(c.toNat:Int))=true:=by rw[hd];rfl
      have af:dE c 0=([],c):=by rw[hd];rfl
      have ad:dE c 1=([92],110):=by rw[hd];rfl
      clear hd;rw[af]at j⊢;simp only[cT]at j;have z:=O ad;clear af ad;go_wp2_with fail;refine aB 6 1 [] mixed Qb trivial ?_;repeat (refine sx ?_ (λan M=> ?_) ?_;rotate_left;(focus clear M;go_simp<;>with_reducible rfl);simp only[a8,a7,a6,aZ,aY])
      intro ab o _;simp only[ae,aQ];have A:=O (w.out.trans o.un);have G:=O (dL j.out o.un);have ao:=A.out.size;clear o w j;go_wp2_with (go_at_call 227;refine(kK a.heap.size a.heap.size b 92 92 rfl ab G.out (by have:=au.out;omega) ao).mono ?_;rintro e aw ⟨rfl,V,R⟩;have ak:=O V;have aj:=O (show az a _ from RowKit.Below.trans A.out R);clear V R G);go_roundw
      case rel=>exact .inr (.inl ⟨rfl,⟨by rw[z.out];rfl,by rw[z.out];exact ak.out,aj.out⟩⟩)
      case measure=>simp[intOf]
     ·have K:((c.toNat:Int)==10)=false:=(ef c 10 Qa).trans (Ql.2 hd);have ap:((10:Int)==(c.toNat:Int))=false:=by rw[Ql]at K⊢;exact λe=>K e.symm
      have z:=O (show dE c 1=dE c 0 from if_neg hd);generalize dE c 0=q at*;obtain⟨ay,q⟩:=q;clear hd;go_wp2_with fail;refine aB 6 1 [] mixed Qb trivial ?_;repeat (refine sx ?_ (λan M=> ?_) ?_;rotate_left;(focus clear M;go_simp<;>with_reducible rfl);simp only[a8,a7,a6,aZ,aY])
      intro ab o _;simp only[ae,aQ];have A:=O (w.out.trans o.un);have G:=O (dL j.out o.un);clear o w j;go_wp2_with fail;go_roundw
      case rel=>exact .inr (.inl ⟨rfl,⟨by rw[z.out],by rw[z.out];exact G.out,A.out⟩⟩)
      case measure=>simp[intOf]
    ·obtain⟨rfl,I,X⟩:=al;have aC: ∀h,(⟨#[10,110,9,116,0,48,92,92,39,39,34,34]⟩:ByteArray)[2]'h=9:=λ_=>rfl;have aA: ∀h,(⟨#[10,110,9,116,0,48,92,92,39,39,34,34]⟩:ByteArray)[3]'h=116:=λ_=>rfl;have j:=O I;have w:=O X;clear I X;by_cases hd:c=9
     ·have K:((c.toNat:Int)==9)=true:=by rw[hd];rfl
      have ap:((9:Int)==(c.toNat:Int))=true:=by rw[hd];rfl
      have af:dE c 1=([],c):=by rw[hd];rfl
      have ad:dE c 2=([92],116):=by rw[hd];rfl
      clear hd;rw[af]at j⊢;simp only[cT]at j;have z:=O ad;clear af ad;go_wp2_with fail;refine aB 6 1 [] mixed Qb trivial ?_;repeat (refine sx ?_ (λan M=> ?_) ?_;rotate_left;(focus clear M;go_simp<;>with_reducible rfl);simp only[a8,a7,a6,aZ,aY])
      intro ab o _;simp only[ae,aQ];have A:=O (w.out.trans o.un);have G:=O (dL j.out o.un);have ao:=A.out.size;clear o w j;go_wp2_with (go_at_call 227;refine(kK a.heap.size a.heap.size b 92 92 rfl ab G.out (by have:=au.out;omega) ao).mono ?_;rintro e aw ⟨rfl,V,R⟩;have ak:=O V;have aj:=O (show az a _ from RowKit.Below.trans A.out R);clear V R G);go_roundw
      case rel=>exact .inr (.inr (.inl ⟨rfl,⟨by rw[z.out];rfl,by rw[z.out];exact ak.out,aj.out⟩⟩))
      case measure=>simp[intOf]
     ·have K:((c.toNat:Int)==9)=false:=(ef c 9 Qa).trans (Ql.2 hd);have ap:((9:Int)==(c.toNat:Int))=false:=by rw[Ql]at K⊢;exact λe=>K e.symm
      have z:=O (show dE c 2=dE c 1 from if_neg hd);generalize dE c 1=q at*;obtain⟨ay,q⟩:=q;clear hd;go_wp2_with fail;refine aB 6 1 [] mixed Qb trivial ?_;repeat (refine sx ?_ (λan M=> ?_) ?_;rotate_left;(focus clear M;go_simp<;>with_reducible rfl);simp only[a8,a7,a6,aZ,aY])
      intro ab o _;simp only[ae,aQ];have A:=O (w.out.trans o.un);have G:=O (dL j.out o.un);clear o w j;go_wp2_with fail;go_roundw
      case rel=>exact .inr (.inr (.inl ⟨rfl,⟨by rw[z.out],by rw[z.out];exact G.out,A.out⟩⟩))
      case measure=>simp[intOf]
    ·obtain⟨rfl,I,X⟩:=al;have aC: ∀h,(⟨#[10,110,9,116,0,48,92,92,39,39,34,34]⟩:ByteArray)[4]'h=0:=λ_=>rfl;have aA: ∀h,(⟨#[10,110,9,116,0,48,92,92,39,39,34,34]⟩:ByteArray)[5]'h=48:=λ_=>rfl;have j:=O I;have w:=O X;clear I X;by_cases hd:c=0
     ·have K:((c.toNat:Int)==0)=true:=by rw[hd];rfl
      have ap:((0:Int)==(c.toNat:Int))=true:=by rw[hd];rfl
      have af:dE c 2=([],c):=by rw[hd];rfl
      have ad:dE c 3=([92],48):=by rw[hd];rfl
      clear hd;rw[af]at j⊢;simp only[cT]at j;have z:=O ad;clear af ad;go_wp2_with fail;refine aB 6 1 [] mixed Qb trivial ?_;repeat (refine sx ?_ (λan M=> ?_) ?_;rotate_left;(focus clear M;go_simp<;>with_reducible rfl);simp only[a8,a7,a6,aZ,aY])
      intro ab o _;simp only[ae,aQ];have A:=O (w.out.trans o.un);have G:=O (dL j.out o.un);have ao:=A.out.size;clear o w j;go_wp2_with (go_at_call 227;refine(kK a.heap.size a.heap.size b 92 92 rfl ab G.out (by have:=au.out;omega) ao).mono ?_;rintro e aw ⟨rfl,V,R⟩;have ak:=O V;have aj:=O (show az a _ from RowKit.Below.trans A.out R);clear V R G);go_roundw
      case rel=>exact .inr (.inr (.inr (.inl ⟨rfl,⟨by rw[z.out];rfl,by rw[z.out];exact ak.out,aj.out⟩⟩)))
      case measure=>simp[intOf]
     ·have K:((c.toNat:Int)==0)=false:=(ef c 0 Qa).trans (Ql.2 hd);have ap:((0:Int)==(c.toNat:Int))=false:=by rw[Ql]at K⊢;exact λe=>K e.symm
      have z:=O (show dE c 3=dE c 2 from if_neg hd);generalize dE c 2=q at*;obtain⟨ay,q⟩:=q;clear hd;go_wp2_with fail;refine aB 6 1 [] mixed Qb trivial ?_;repeat (refine sx ?_ (λan M=> ?_) ?_;rotate_left;(focus clear M;go_simp<;>with_reducible rfl);simp only[a8,a7,a6,aZ,aY])
      intro ab o _;simp only[ae,aQ];have A:=O (w.out.trans o.un);have G:=O (dL j.out o.un);clear o w j;go_wp2_with fail;go_roundw
      case rel=>exact .inr (.inr (.inr (.inl ⟨rfl,⟨by rw[z.out],by rw[z.out];exact G.out,A.out⟩⟩)))
      case measure=>simp[intOf]
    ·obtain⟨rfl,I,X⟩:=al;have aC: ∀h,(⟨#[10,110,9,116,0,48,92,92,39,39,34,34]⟩:ByteArray)[6]'h=92:=λ_=>rfl;have aA: ∀h,(⟨#[10,110,9,116,0,48,92,92,39,39,34,34]⟩:ByteArray)[7]'h=92:=λ_=>rfl;have j:=O I;have w:=O X;clear I X;by_cases hd:c=92
     ·have K:((c.toNat:Int)==92)=true:=by rw[hd];rfl
      have ap:((92:Int)==(c.toNat:Int))=true:=by rw[hd];rfl
      have af:dE c 3=([],c):=by rw[hd];rfl
      have ad:dE c 4=([92],92):=by rw[hd];rfl
      clear hd;rw[af]at j⊢;simp only[cT]at j;have z:=O ad;clear af ad;go_wp2_with fail;refine aB 6 1 [] mixed Qb trivial ?_;repeat (refine sx ?_ (λan M=> ?_) ?_;rotate_left;(focus clear M;go_simp<;>with_reducible rfl);simp only[a8,a7,a6,aZ,aY])
      intro ab o _;simp only[ae,aQ];have A:=O (w.out.trans o.un);have G:=O (dL j.out o.un);have ao:=A.out.size;clear o w j;go_wp2_with (go_at_call 227;refine(kK a.heap.size a.heap.size b 92 92 rfl ab G.out (by have:=au.out;omega) ao).mono ?_;rintro e aw ⟨rfl,V,R⟩;have ak:=O V;have aj:=O (show az a _ from RowKit.Below.trans A.out R);clear V R G);go_roundw
      case rel=>exact .inr (.inr (.inr (.inr (.inl ⟨rfl,⟨by rw[z.out];rfl,by rw[z.out];exact ak.out,aj.out⟩⟩))))
      case measure=>simp[intOf]
     ·have K:((c.toNat:Int)==92)=false:=(ef c 92 Qa).trans (Ql.2 hd);have ap:((92:Int)==(c.toNat:Int))=false:=by rw[Ql]at K⊢;exact λe=>K e.symm
      have z:=O (show dE c 4=dE c 3 from if_neg hd);generalize dE c 3=q at*;obtain⟨ay,q⟩:=q;clear hd;go_wp2_with fail;refine aB 6 1 [] mixed Qb trivial ?_;repeat (refine sx ?_ (λan M=> ?_) ?_;rotate_left;(focus clear M;go_simp<;>with_reducible rfl);simp only[a8,a7,a6,aZ,aY])
      intro ab o _;simp only[ae,aQ];have A:=O (w.out.trans o.un);have G:=O (dL j.out o.un);clear o w j;go_wp2_with fail;go_roundw
      case rel=>exact .inr (.inr (.inr (.inr (.inl ⟨rfl,⟨by rw[z.out],by rw[z.out];exact G.out,A.out⟩⟩))))
      case measure=>simp[intOf]
    ·obtain⟨rfl,I,X⟩:=al;have aC: ∀h,(⟨#[10,110,9,116,0,48,92,92,39,39,34,34]⟩:ByteArray)[8]'h=39:=λ_=>rfl;have aA: ∀h,(⟨#[10,110,9,116,0,48,92,92,39,39,34,34]⟩:ByteArray)[9]'h=39:=λ_=>rfl;have j:=O I;have w:=O X;clear I X;by_cases hd:c=39
     ·have K:((c.toNat:Int)==39)=true:=by rw[hd];rfl
      have ap:((39:Int)==(c.toNat:Int))=true:=by rw[hd];rfl
      have af:dE c 4=([],c):=by rw[hd];rfl
      have ad:dE c 5=([92],39):=by rw[hd];rfl
      clear hd;rw[af]at j⊢;simp only[cT]at j;have z:=O ad;clear af ad;go_wp2_with fail;refine aB 6 1 [] mixed Qb trivial ?_;repeat (refine sx ?_ (λan M=> ?_) ?_;rotate_left;(focus clear M;go_simp<;>with_reducible rfl);simp only[a8,a7,a6,aZ,aY])
      intro ab o _;simp only[ae,aQ];have A:=O (w.out.trans o.un);have G:=O (dL j.out o.un);have ao:=A.out.size;clear o w j;go_wp2_with (go_at_call 227;refine(kK a.heap.size a.heap.size b 92 92 rfl ab G.out (by have:=au.out;omega) ao).mono ?_;rintro e aw ⟨rfl,V,R⟩;have ak:=O V;have aj:=O (show az a _ from RowKit.Below.trans A.out R);clear V R G);go_roundw
      case rel=>exact .inr (.inr (.inr (.inr (.inr (.inl ⟨rfl,⟨by rw[z.out];rfl,by rw[z.out];exact ak.out,aj.out⟩⟩)))))
      case measure=>simp[intOf]
     ·have K:((c.toNat:Int)==39)=false:=(ef c 39 Qa).trans (Ql.2 hd);have ap:((39:Int)==(c.toNat:Int))=false:=by rw[Ql]at K⊢;exact λe=>K e.symm
      have z:=O (show dE c 5=dE c 4 from if_neg hd);generalize dE c 4=q at*;obtain⟨ay,q⟩:=q;clear hd;go_wp2_with fail;refine aB 6 1 [] mixed Qb trivial ?_;repeat (refine sx ?_ (λan M=> ?_) ?_;rotate_left;(focus clear M;go_simp<;>with_reducible rfl);simp only[a8,a7,a6,aZ,aY])
      intro ab o _;simp only[ae,aQ];have A:=O (w.out.trans o.un);have G:=O (dL j.out o.un);clear o w j;go_wp2_with fail;go_roundw
      case rel=>exact .inr (.inr (.inr (.inr (.inr (.inl ⟨rfl,⟨by rw[z.out],by rw[z.out];exact G.out,A.out⟩⟩)))))
      case measure=>simp[intOf]
    ·obtain⟨rfl,I,X⟩:=al;have aC: ∀h,(⟨#[10,110,9,116,0,48,92,92,39,39,34,34]⟩:ByteArray)[10]'h=34:=λ_=>rfl;have aA: ∀h,(⟨#[10,110,9,116,0,48,92,92,39,39,34,34]⟩:ByteArray)[11]'h=34:=λ_=>rfl;have j:=O I;have w:=O X;clear I X;by_cases hd:c=34
     ·have K:((c.toNat:Int)==34)=true:=by rw[hd];rfl
      have ap:((34:Int)==(c.toNat:Int))=true:=by rw[hd];rfl
      have af:dE c 5=([],c):=by rw[hd];rfl
      have ad:dE c 6=([92],34):=by rw[hd];rfl
      clear hd;rw[af]at j⊢;simp only[cT]at j;have z:=O ad;clear af ad;go_wp2_with fail;refine aB 6 1 [] mixed Qb trivial ?_;repeat (refine sx ?_ (λan M=> ?_) ?_;rotate_left;(focus clear M;go_simp<;>with_reducible rfl);simp only[a8,a7,a6,aZ,aY])
      intro ab o _;simp only[ae,aQ];have A:=O (w.out.trans o.un);have G:=O (dL j.out o.un);have ao:=A.out.size;clear o w j;go_wp2_with (go_at_call 227;refine(kK a.heap.size a.heap.size b 92 92 rfl ab G.out (by have:=au.out;omega) ao).mono ?_;rintro e aw ⟨rfl,V,R⟩;have ak:=O V;have aj:=O (show az a _ from RowKit.Below.trans A.out R);clear V R G);go_roundw
      case rel=>exact .inr (.inr (.inr (.inr (.inr (.inr (⟨rfl,⟨by rw[z.out];rfl,by rw[z.out];exact ak.out,aj.out⟩⟩))))))
      case measure=>simp[intOf]
     ·have K:((c.toNat:Int)==34)=false:=(ef c 34 Qa).trans (Ql.2 hd);have ap:((34:Int)==(c.toNat:Int))=false:=by rw[Ql]at K⊢;exact λe=>K e.symm
      have z:=O (show dE c 6=dE c 5 from if_neg hd);generalize dE c 5=q at*;obtain⟨ay,q⟩:=q;clear hd;go_wp2_with fail;refine aB 6 1 [] mixed Qb trivial ?_;repeat (refine sx ?_ (λan M=> ?_) ?_;rotate_left;(focus clear M;go_simp<;>with_reducible rfl);simp only[a8,a7,a6,aZ,aY])
      intro ab o _;simp only[ae,aQ];have A:=O (w.out.trans o.un);have G:=O (dL j.out o.un);clear o w j;go_wp2_with fail;go_roundw
      case rel=>exact .inr (.inr (.inr (.inr (.inr (.inr (⟨rfl,⟨by rw[z.out],by rw[z.out];exact G.out,A.out⟩⟩))))))
      case measure=>simp[intOf]
    ·obtain⟨rfl,I,X⟩:=al;have j:=O I;have w:=O X;have aP:=X.size;have aM:=O (DR c);clear I X;have aR:(dE c 6).1.length<=1:=by
      have aJ:=congrArg List.length aM.out;have bc:=(l8 c).2;rw[ac]at aJ;simp only[ah,ai]at aJ;omega
     generalize dE c 6=q at*;obtain⟨ay,q⟩:=q;go_wp2_with (go_at_call 227;refine(kK a.heap.size a.heap.size (b++ay) q (q.toNat:Int) rfl _ j.out (by have:=au.out;rw[ac];simp only at aR;omega) aP).mono ?_;rintro e aw ⟨rfl,V,R⟩;have ak:=O V;have aj:=O (show az a _ from RowKit.Below.trans w.out R);clear V R j);go_roundw
     case rel=>exact⟨ag+1,by go_num,by omega,O (by rw[aU.out,<-aM.out,<-aq];exact ak.out),aj⟩
     case measure=>simp[intOf];omega
  ·have aS: ¬(ag:Int)<l.length:=Qa
   have aN:=O (show l.take ag=l from bC Qa);have au:=O (show((34::fq l):List UInt8).length<=200001 from by have:=jg l;simp only[ah];omega);have a1:=O (show Lib.IsBuilder 193 5 a.heap.size a.heap.size (Lib.byteCells (34::fq l)) wr from by have:=j.out;rwa [aN.out]at this);clear j aN
   go_wp2_with (first
    |(go_at_call 227;refine(kK a.heap.size a.heap.size (34::fq l) 34 34 rfl _ a1.out (by have:=au.out;omega) aO).mono ?_;rintro e aw ⟨rfl,V,R⟩;have ak:=O V;have aj:=O (show az a _ from RowKit.Below.trans w.out R);clear V R)
    |(go_at_call 95;refine(Tryz.Builder_String_any a.heap.size a.heap.size _ _ ak.out aj.out.size).mono ?_;rintro e a4 ⟨rfl,aF⟩;have aW:=O (show az a _ from RowKit.Below.trans aj.out aF);clear aF))
   go_ret;exact⟨rfl,aW.out⟩
end
end Go.Proofs.YtddomeddabfinaaGreatDoor
