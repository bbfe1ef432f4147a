/- Parts of the proof. -/
import Derived.Test.YtoedmpgicdekmaaGreatDoorCo08
set_option maxRecDepth 100000
set_option maxHeartbeats 8000000
set_option linter.all false
namespace Go.Proofs.YtoedmpgicdekmaaGreatDoor
open Go.Proofs.Tryz
section
open Go.RowKit
def dO (c:UInt8):Nat->List UInt8×UInt8
 |0=>([],c)
 |j+1=>if c=([10,9,0,92,39,34]:List UInt8).getD j 0 then([92],([110,116,48,92,39,34]:List UInt8).getD j 0)else dO c j
theorem EW (c:UInt8):(dO c 6).1++[(dO c 6).2]=vC c:=by
 have: ∀n:Fin 256,(dO (UInt8.ofNat n.val) 6).1++[(dO (UInt8.ofNat n.val) 6).2]=vC (UInt8.ofNat n.val):=Ql
 have a:=this ⟨c.toNat,c.toNat_lt⟩;rwa [j4]at a
theorem zm {l:List UInt8} {j:Nat} (a:j<l.length):gT (l.take (j+1))=gT (l.take j)++vC l[j]:=by
 rw[aT a,zn];simp[gT]
theorem dV {T e:TypeId} {B b:Nat} {bs:List Value} {a w':World} (z:Lib.IsBuilder T e B b bs a) (d:au a w'):Lib.IsBuilder T e B b bs w':=by
 have key: ∀p,Lib.BuilderAt T e B b p bs a->Lib.BuilderAt T e B b p bs w':=by
  rintro p ⟨y,v,h,o,u⟩;have w:b<a.heap.size:=(Array.getElem?_eq_some_iff.1 h).1;exact⟨y,v,(d.obj w).trans h,World.ownsRow.kept o (d.grownBy none) (by cases v.ownBlock<;>simp),u⟩
 exact z.imp (key _) (key _)
theorem xI (l:List UInt8) (c:UInt8) (n:Int) (a:(c.toNat:Int)=n):Lib.byteCells l++[.int .u8 n]=Lib.byteCells (l++[c]):=by
 subst a;simp[Lib.byteCells]
theorem kU (B b:Nat) (l:List UInt8) (c:UInt8) (n:Int) (h:(c.toNat:Int)=n) (a:World) (w:Lib.IsBuilder 215 5 B b (Lib.byteCells l) a) (y:l.length<=1000000) (o:B<=a.heap.size):
  Calls prog 265 #[.pointer (some ⟨b,0,none⟩),.int .u8 n] a λe w'=>e=.returned .nilIface/\Lib.IsBuilder 215 5 B b (Lib.byteCells (l++[c])) w'/\Below B a w':=by
 refine(Tryz.Builder_WriteByte B b (Lib.byteCells l) n a w (by rw[Lib.byteCells_length];omega) o).mono ?_;rintro e w' ⟨rfl,d,u⟩;rw[xI l c n h]at d;exact⟨rfl,.inr d,u⟩
def v_ (c:UInt8) (b:List UInt8) (w0:World) (j:Nat) (vc:Value) (wr:World):Prop:=
 vc=.int .u8 ((dO c j).2.toNat:Int)/\Lib.IsBuilder 215 5 w0.heap.size w0.heap.size (Lib.byteCells (b++(dO c j).1)) wr/\au w0 wr
theorem zl (l:List UInt8) (a4:l.length<=100000) (a:World):Calls prog 255 #[.string (Z l)] a λe w'=>e=.returned (.string (Z (nt l)))/\au a w':=by
 have a3:(Z l).size=l.length:=aZ l;have aI:=G (aa a (.cells #[.pointer none,.slice none 0 0] 215));have a1:=G (show Lib.IsBuilder 215 5 a.heap.size a.heap.size (Lib.byteCells []) (a.alloc (.cells #[.pointer none,.slice none 0 0] 215))from Lib.fresh_isBuilder _ _ a);go_enter func255,ntmps255;go_wp2_with (go_at_call 265;refine(kU a.heap.size a.heap.size [] 34 34 rfl _ a1.out (aD _) aI.out.size).mono ?_;rintro e am ⟨rfl,aG,aF⟩;have aY:=G aG;have aW:=G (show au a _ from RowKit.Below.trans aI.out aF);clear aG aF)
 go_loopw [10] (λaA wr=> ∃j:Nat,aA=.int .i64 (j:Int)/\j<=l.length/\Hid (Lib.IsBuilder 215 5 a.heap.size a.heap.size (Lib.byteCells (34::gT (l.take j))) wr)/\Hid (au a wr)) (λaA _=>l.length-(intOf aA).toNat)
 case atStart=>exact⟨0,rfl,aD _,G (by simpa[gT]using aY.out),aW⟩
 case round=>
  obtain⟨j,rfl,a5,d,u⟩:=hrel;have aN:=u.out.size;by_cases hlt:j<l.length
  ·have aR:j<(Z l).size:=by rw[aZ];exact hlt
   have a6:=nV l j aR;have aQ:(j:Int)<l.length:=J
   have aJ:=G (zm hlt);have aq:=G (show((34::gT (l.take j)):List UInt8).length<=200001 from by have:=jx (l.take j);rw[bG]at this;simp only[ag];omega);generalize l[j]'hlt=c at*;generalize aC:34::gT (l.take j)=b at*;have aS:=G (show 34::gT (l.take (j+1))=b++vC c by rw[aJ.out,<-aC];rfl);clear aC aJ;have aT:=G (show v_ c b a 0 (.int .u8 (c.toNat:Int)) wr from⟨rfl,by simpa[dO]using d.out,u.out⟩);clear d u;go_wp2_with fail
   go_loopw [5,6] (λaw ap ar=>(ap=.int .i64 0/\v_ c b a 0 aw ar)\/(ap=.int .i64 2/\v_ c b a 1 aw ar)\/(ap=.int .i64 4/\v_ c b a 2 aw ar)\/(ap=.int .i64 6/\v_ c b a 3 aw ar)\/(ap=.int .i64 8/\v_ c b a 4 aw ar)\/(ap=.int .i64 10/\v_ c b a 5 aw ar)\/(ap=.int .i64 12/\v_ c b a 6 aw ar)) (λ_ ap _=>13-(intOf ap).toNat)
   case atStart=>exact .inl ⟨rfl,aT.out⟩
   case round=>
    rcases hrel with⟨rfl,al⟩|⟨rfl,al⟩|⟨rfl,al⟩|⟨rfl,al⟩|⟨rfl,al⟩|⟨rfl,al⟩|⟨rfl,al⟩
    ·obtain⟨rfl,I,X⟩:=al;have az: ∀h,(⟨#[10,110,9,116,0,48,92,92,39,39,34,34]⟩:ByteArray)[0]'h=10:=λ_=>rfl;have ay: ∀h,(⟨#[10,110,9,116,0,48,92,92,39,39,34,34]⟩:ByteArray)[1]'h=110:=λ_=>rfl;have d:=G I;have u:=G X;clear I X;by_cases hd:c=10
     ·have A:((c.toNat:Int)==10)=true:=by rw[hd];rfl
      have ao:((10:Int)==(c.toNat:Int))=true:=by rw[hd];rfl
      have e0:dO c 0=([],c):=by rw[hd];rfl
      have af:dO c 1=([92],110):=by rw[hd];rfl
      clear hd;rw[e0]at d⊢;simp only[fd]at d;have w:=G af;clear e0 af;go_wp2_with fail;refine aB 6 1 [] mixed Qb trivial ?_;repeat (refine sx ?_ (λam F=> ?_) ?_;rotate_left;(focus clear F;go_simp<;>with_reducible rfl);simp only[bE,bD,bC,bB,bA])
      intro ad o _;simp only[ae,aV];have y:=G (u.out.trans o.un);have z:=G (dV d.out o.un);have an:=y.out.size;clear o u d;go_wp2_with (go_at_call 265;refine(kU a.heap.size a.heap.size b 92 92 rfl ad z.out (by have:=aq.out;omega) an).mono ?_;rintro e av ⟨rfl,V,R⟩;have aj:=G V;have ah:=G (show au a _ from RowKit.Below.trans y.out R);clear V R z);go_roundw
      case rel=>exact .inr (.inl ⟨rfl,⟨by rw[w.out];rfl,by rw[w.out];exact aj.out,ah.out⟩⟩)
      case measure=>simp[intOf]
     ·have A:((c.toNat:Int)==10)=false:=(eG c 10 J).trans (Qn.2 hd);have ao:((10:Int)==(c.toNat:Int))=false:=by rw[Qn]at A⊢;exact λe=>A e.symm
      have w:=G (show dO c 1=dO c 0 from if_neg hd);generalize dO c 0=q at*;obtain⟨ax,q⟩:=q;clear hd;go_wp2_with fail;refine aB 6 1 [] mixed Qb trivial ?_;repeat (refine sx ?_ (λam F=> ?_) ?_;rotate_left;(focus clear F;go_simp<;>with_reducible rfl);simp only[bE,bD,bC,bB,bA])
      intro ad o _;simp only[ae,aV];have y:=G (u.out.trans o.un);have z:=G (dV d.out o.un);clear o u d;go_wp2_with fail;go_roundw
      case rel=>exact .inr (.inl ⟨rfl,⟨by rw[w.out],by rw[w.out];exact z.out,y.out⟩⟩)
      case measure=>simp[intOf]
    ·obtain⟨rfl,I,X⟩:=al;have az: ∀h,(⟨#[10,110,9,116,0,48,92,92,39,39,34,34]⟩:ByteArray)[2]'h=9:=λ_=>rfl;have ay: ∀h,(⟨#[10,110,9,116,0,48,92,92,39,39,34,34]⟩:ByteArray)[3]'h=116:=λ_=>rfl;have d:=G I;have u:=G X;clear I X;by_cases hd:c=9
     ·have A:((c.toNat:Int)==9)=true:=by rw[hd];rfl
      have ao:((9:Int)==(c.toNat:Int))=true:=by rw[hd];rfl
      have e0:dO c 1=([],c):=by rw[hd];rfl
      have af:dO c 2=([92],116):=by rw[hd];rfl
      clear hd;rw[e0]at d⊢;simp only[fd]at d;have w:=G af;clear e0 af;go_wp2_with fail;refine aB 6 1 [] mixed Qb trivial ?_;repeat (refine sx ?_ (λam F=> ?_) ?_;rotate_left;(focus clear F;go_simp<;>with_reducible rfl);simp only[bE,bD,bC,bB,bA])
      intro ad o _;simp only[ae,aV];have y:=G (u.out.trans o.un);have z:=G (dV d.out o.un);have an:=y.out.size;clear o u d;go_wp2_with (go_at_call 265;refine(kU a.heap.size a.heap.size b 92 92 rfl ad z.out (by have:=aq.out;omega) an).mono ?_;rintro e av ⟨rfl,V,R⟩;have aj:=G V;have ah:=G (show au a _ from RowKit.Below.trans y.out R);clear V R z);go_roundw
      case rel=>exact .inr (.inr (.inl ⟨rfl,⟨by rw[w.out];rfl,by rw[w.out];exact aj.out,ah.out⟩⟩))
      case measure=>simp[intOf]
     ·have A:((c.toNat:Int)==9)=false:=(eG c 9 J).trans (Qn.2 hd);have ao:((9:Int)==(c.toNat:Int))=false:=by rw[Qn]at A⊢;exact λe=>A e.symm
      have w:=G (show dO c 2=dO c 1 from if_neg hd);generalize dO c 1=q at*;obtain⟨ax,q⟩:=q;clear hd;go_wp2_with fail;refine aB 6 1 [] mixed Qb trivial ?_;repeat (refine sx ?_ (λam F=> ?_) ?_;rotate_left;(focus clear F;go_simp<;>with_reducible rfl);simp only[bE,bD,bC,bB,bA])
      intro ad o _;simp only[ae,aV];have y:=G (u.out.trans o.un);have z:=G (dV d.out o.un);clear o u d;go_wp2_with fail;go_roundw
      case rel=>exact .inr (.inr (.inl ⟨rfl,⟨by rw[w.out],by rw[w.out];exact z.out,y.out⟩⟩))
      case measure=>simp[intOf]
    ·obtain⟨rfl,I,X⟩:=al;have az: ∀h,(⟨#[10,110,9,116,0,48,92,92,39,39,34,34]⟩:ByteArray)[4]'h=0:=λ_=>rfl;have ay: ∀h,(⟨#[10,110,9,116,0,48,92,92,39,39,34,34]⟩:ByteArray)[5]'h=48:=λ_=>rfl;have d:=G I;have u:=G X;clear I X;by_cases hd:c=0
     ·have A:((c.toNat:Int)==0)=true:=by rw[hd];rfl
      have ao:((0:Int)==(c.toNat:Int))=true:=by rw[hd];rfl
      have e0:dO c 2=([],c):=by rw[hd];rfl
      have af:dO c 3=([92],48):=by rw[hd];rfl
      clear hd;rw[e0]at d⊢;simp only[fd]at d;have w:=G af;clear e0 af;go_wp2_with fail;refine aB 6 1 [] mixed Qb trivial ?_;repeat (refine sx ?_ (λam F=> ?_) ?_;rotate_left;(focus clear F;go_simp<;>with_reducible rfl);simp only[bE,bD,bC,bB,bA])
      intro ad o _;simp only[ae,aV];have y:=G (u.out.trans o.un);have z:=G (dV d.out o.un);have an:=y.out.size;clear o u d;go_wp2_with (go_at_call 265;refine(kU a.heap.size a.heap.size b 92 92 rfl ad z.out (by have:=aq.out;omega) an).mono ?_;rintro e av ⟨rfl,V,R⟩;have aj:=G V;have ah:=G (show au a _ from RowKit.Below.trans y.out R);clear V R z);go_roundw
      case rel=>exact .inr (.inr (.inr (.inl ⟨rfl,⟨by rw[w.out];rfl,by rw[w.out];exact aj.out,ah.out⟩⟩)))
      case measure=>simp[intOf]
     ·have A:((c.toNat:Int)==0)=false:=(eG c 0 J).trans (Qn.2 hd);have ao:((0:Int)==(c.toNat:Int))=false:=by rw[Qn]at A⊢;exact λe=>A e.symm
      have w:=G (show dO c 3=dO c 2 from if_neg hd);generalize dO c 2=q at*;obtain⟨ax,q⟩:=q;clear hd;go_wp2_with fail;refine aB 6 1 [] mixed Qb trivial ?_;repeat (refine sx ?_ (λam F=> ?_) ?_;rotate_left;(focus clear F;go_simp<;>with_reducible rfl);simp only[bE,bD,bC,bB,bA])
      intro ad o _;simp only[ae,aV];have y:=G (u.out.trans o.un);have z:=G (dV d.out o.un);clear o u d;go_wp2_with fail;go_roundw
      case rel=>exact .inr (.inr (.inr (.inl ⟨rfl,⟨by rw[w.out],by rw[w.out];exact z.out,y.out⟩⟩)))
      case measure=>simp[intOf]
    ·obtain⟨rfl,I,X⟩:=al;have az: ∀h,(⟨#[10,110,9,116,0,48,92,92,39,39,34,34]⟩:ByteArray)[6]'h=92:=λ_=>rfl;have ay: ∀h,(⟨#[10,110,9,116,0,48,92,92,39,39,34,34]⟩:ByteArray)[7]'h=92:=λ_=>rfl;have d:=G I;have u:=G X;clear I X;by_cases hd:c=92
     ·have A:((c.toNat:Int)==92)=true:=by rw[hd];rfl
      have ao:((92:Int)==(c.toNat:Int))=true:=by rw[hd];rfl
      have e0:dO c 3=([],c):=by rw[hd];rfl
      have af:dO c 4=([92],92):=by rw[hd];rfl
      clear hd;rw[e0]at d⊢;simp only[fd]at d;have w:=G af;clear e0 af;go_wp2_with fail;refine aB 6 1 [] mixed Qb trivial ?_;repeat (refine sx ?_ (λam F=> ?_) ?_;rotate_left;(focus clear F;go_simp<;>with_reducible rfl);simp only[bE,bD,bC,bB,bA])
      intro ad o _;simp only[ae,aV];have y:=G (u.out.trans o.un);have z:=G (dV d.out o.un);have an:=y.out.size;clear o u d;go_wp2_with (go_at_call 265;refine(kU a.heap.size a.heap.size b 92 92 rfl ad z.out (by have:=aq.out;omega) an).mono ?_;rintro e av ⟨rfl,V,R⟩;have aj:=G V;have ah:=G (show au a _ from RowKit.Below.trans y.out R);clear V R z);go_roundw
      case rel=>exact .inr (.inr (.inr (.inr (.inl ⟨rfl,⟨by rw[w.out];rfl,by rw[w.out];exact aj.out,ah.out⟩⟩))))
      case measure=>simp[intOf]
     ·have A:((c.toNat:Int)==92)=false:=(eG c 92 J).trans (Qn.2 hd);have ao:((92:Int)==(c.toNat:Int))=false:=by rw[Qn]at A⊢;exact λe=>A e.symm
      have w:=G (show dO c 4=dO c 3 from if_neg hd);generalize dO c 3=q at*;obtain⟨ax,q⟩:=q;clear hd;go_wp2_with fail;refine aB 6 1 [] mixed Qb trivial ?_;repeat (refine sx ?_ (λam F=> ?_) ?_;rotate_left;(focus clear F;go_simp<;>with_reducible rfl);simp only[bE,bD,bC,bB,bA])
      intro ad o _;simp only[ae,aV];have y:=G (u.out.trans o.un);have z:=G (dV d.out o.un);clear o u d;go_wp2_with fail;go_roundw
      case rel=>exact .inr (.inr (.inr (.inr (.inl ⟨rfl,⟨by rw[w.out],by rw[w.out];exact z.out,y.out⟩⟩))))
      case measure=>simp[intOf]
    ·obtain⟨rfl,I,X⟩:=al;have az: ∀h,(⟨#[10,110,9,116,0,48,92,92,39,39,34,34]⟩:ByteArray)[8]'h=39:=λ_=>rfl;have ay: ∀h,(⟨#[10,110,9,116,0,48,92,92,39,39,34,34]⟩:ByteArray)[9]'h=39:=λ_=>rfl;have d:=G I;have u:=G X;clear I X;by_cases hd:c=39
     ·have A:((c.toNat:Int)==39)=true:=by rw[hd];rfl
      have ao:((39:Int)==(c.toNat:Int))=true:=by rw[hd];rfl
      have e0:dO c 4=([],c):=by rw[hd];rfl
      have af:dO c 5=([92],39):=by rw[hd];rfl
      clear hd;rw[e0]at d⊢;simp only[fd]at d;have w:=G af;clear e0 af;go_wp2_with fail;refine aB 6 1 [] mixed Qb trivial ?_;repeat (refine sx ?_ (λam F=> ?_) ?_;rotate_left;(focus clear F;go_simp<;>with_reducible rfl);simp only[bE,bD,bC,bB,bA])
      intro ad o _;simp only[ae,aV];have y:=G (u.out.trans o.un);have z:=G (dV d.out o.un);have an:=y.out.size;clear o u d;go_wp2_with (go_at_call 265;refine(kU a.heap.size a.heap.size b 92 92 rfl ad z.out (by have:=aq.out;omega) an).mono ?_;rintro e av ⟨rfl,V,R⟩;have aj:=G V;have ah:=G (show au a _ from RowKit.Below.trans y.out R);clear V R z);go_roundw
      case rel=>exact .inr (.inr (.inr (.inr (.inr (.inl ⟨rfl,⟨by rw[w.out];rfl,by rw[w.out];exact aj.out,ah.out⟩⟩)))))
      case measure=>simp[intOf]
     ·have A:((c.toNat:Int)==39)=false:=(eG c 39 J).trans (Qn.2 hd);have ao:((39:Int)==(c.toNat:Int))=false:=by rw[Qn]at A⊢;exact λe=>A e.symm
      have w:=G (show dO c 5=dO c 4 from if_neg hd);generalize dO c 4=q at*;obtain⟨ax,q⟩:=q;clear hd;go_wp2_with fail;refine aB 6 1 [] mixed Qb trivial ?_;repeat (refine sx ?_ (λam F=> ?_) ?_;rotate_left;(focus clear F;go_simp<;>with_reducible rfl);simp only[bE,bD,bC,bB,bA])
      intro ad o _;simp only[ae,aV];have y:=G (u.out.trans o.un);have z:=G (dV d.out o.un);clear o u d;go_wp2_with fail;go_roundw
      case rel=>exact .inr (.inr (.inr (.inr (.inr (.inl ⟨rfl,⟨by rw[w.out],by rw[w.out];exact z.out,y.out⟩⟩)))))
      case measure=>simp[intOf]
    ·obtain⟨rfl,I,X⟩:=al;have az: ∀h,(⟨#[10,110,9,116,0,48,92,92,39,39,34,34]⟩:ByteArray)[10]'h=34:=λ_=>rfl;have ay: ∀h,(⟨#[10,110,9,116,0,48,92,92,39,39,34,34]⟩:ByteArray)[11]'h=34:=λ_=>rfl;have d:=G I;have u:=G X;clear I X;by_cases hd:c=34
     ·have A:((c.toNat:Int)==34)=true:=by rw[hd];rfl
      have ao:((34:Int)==(c.toNat:Int))=true:=by rw[hd];rfl
      have e0:dO c 5=([],c):=by rw[hd];rfl
      have af:dO c 6=([92],34):=by rw[hd];rfl
      clear hd;rw[e0]at d⊢;simp only[fd]at d;have w:=G af;clear e0 af;go_wp2_with fail;refine aB 6 1 [] mixed Qb trivial ?_;repeat (refine sx ?_ (λam F=> ?_) ?_;rotate_left;(focus clear F;go_simp<;>with_reducible rfl);simp only[bE,bD,bC,bB,bA])
      intro ad o _;simp only[ae,aV];have y:=G (u.out.trans o.un);have z:=G (dV d.out o.un);have an:=y.out.size;clear o u d;go_wp2_with (go_at_call 265;refine(kU a.heap.size a.heap.size b 92 92 rfl ad z.out (by have:=aq.out;omega) an).mono ?_;rintro e av ⟨rfl,V,R⟩;have aj:=G V;have ah:=G (show au a _ from RowKit.Below.trans y.out R);clear V R z);go_roundw
      case rel=>exact .inr (.inr (.inr (.inr (.inr (.inr (⟨rfl,⟨by rw[w.out];rfl,by rw[w.out];exact aj.out,ah.out⟩⟩))))))
      case measure=>simp[intOf]
     ·have A:((c.toNat:Int)==34)=false:=(eG c 34 J).trans (Qn.2 hd);have ao:((34:Int)==(c.toNat:Int))=false:=by rw[Qn]at A⊢;exact λe=>A e.symm
      have w:=G (show dO c 6=dO c 5 from if_neg hd);generalize dO c 5=q at*;obtain⟨ax,q⟩:=q;clear hd;go_wp2_with fail;refine aB 6 1 [] mixed Qb trivial ?_;repeat (refine sx ?_ (λam F=> ?_) ?_;rotate_left;(focus clear F;go_simp<;>with_reducible rfl);simp only[bE,bD,bC,bB,bA])
      intro ad o _;simp only[ae,aV];have y:=G (u.out.trans o.un);have z:=G (dV d.out o.un);clear o u d;go_wp2_with fail;go_roundw
      case rel=>exact .inr (.inr (.inr (.inr (.inr (.inr (⟨rfl,⟨by rw[w.out],by rw[w.out];exact z.out,y.out⟩⟩))))))
      case measure=>simp[intOf]
    ·obtain⟨rfl,I,X⟩:=al;have d:=G I;have u:=G X;have aO:=X.size;have aK:=G (EW c);clear I X;have aP:(dO c 6).1.length<=1:=by
      have aH:=congrArg List.length aK.out;have a7:=(pQ c).2;rw[H]at aH;simp only[ag,ai]at aH;omega
     generalize dO c 6=q at*;obtain⟨ax,q⟩:=q;go_wp2_with (go_at_call 265;refine(kU a.heap.size a.heap.size (b++ax) q (q.toNat:Int) rfl _ d.out (by have:=aq.out;rw[H];simp only at aP;omega) aO).mono ?_;rintro e av ⟨rfl,V,R⟩;have aj:=G V;have ah:=G (show au a _ from RowKit.Below.trans u.out R);clear V R d);go_roundw
     case rel=>exact⟨j+1,by go_num,by omega,G (by rw[aS.out,<-aK.out,<-aL];exact aj.out),ah⟩
     case measure=>simp[intOf];omega
  ·have aQ: ¬(j:Int)<l.length:=J
   have aM:=G (show l.take j=l from bQ J);have aq:=G (show((34::gT l):List UInt8).length<=200001 from by have:=jx l;simp only[ag];omega);have aX:=G (show Lib.IsBuilder 215 5 a.heap.size a.heap.size (Lib.byteCells (34::gT l)) wr from by have:=d.out;rwa [aM.out]at this);clear d aM
   go_wp2_with (first
    |(go_at_call 265;refine(kU a.heap.size a.heap.size (34::gT l) 34 34 rfl _ aX.out (by have:=aq.out;omega) aN).mono ?_;rintro e av ⟨rfl,V,R⟩;have aj:=G V;have ah:=G (show au a _ from RowKit.Below.trans u.out R);clear V R)
    |(go_at_call 122;refine(Tryz.Builder_String_any a.heap.size a.heap.size _ _ aj.out ah.out.size).mono ?_;rintro e a2 ⟨rfl,aE⟩;have aU:=G (show au a _ from RowKit.Below.trans ah.out aE);clear aE))
   go_ret;exact⟨rfl,aU.out⟩
end
end Go.Proofs.YtoedmpgicdekmaaGreatDoor
