/-
  Parts of the proof: OpenC LexP LexA LexB LexC.
-/
import Derived.Test.YtelplgkppalmfaaGreatDoorPs00
import Derived.Deep.Fields
import Derived.ChangeSame
import Derived.Deep.Slices
import Derived.Test.YtelplgkppalmfaaGreatDoorPs03
import Derived.Test.YtelplgkppalmfaaGreatDoorProg
import Derived.WalkKit
import Derived.Test.YtelplgkppalmfaaGreatDoorPs01
set_option maxRecDepth 100000
set_option maxHeartbeats 8000000
set_option linter.unusedVariables false
set_option linter.unusedSimpArgs false
namespace Go.Proofs.YtelplgkppalmfaaGreatDoor
open Go.Proofs.Tryz
section
open Go.Joins Go.ChangeShapes Go.WideShapes Go.ChangeAt Go.RowKit Go.Deep
section
variable {H:Type} {enc:TypeId×Value->H} {P:Program} {W:World}
end
end
section
def fd (c:UInt8):Bool:=decide (97<=(c|||32).toNat/\(c|||32).toNat<=122)
def cX (c:UInt8):Bool:=decide (48<=c.toNat/\c.toNat<=57)
def c_ (c:UInt8):Bool:=fd c||cX c||c==95
def tN (c:UInt8):Bool:=c==32||c==9||c==10||c==13
theorem uM (c:UInt8):fd c=(decide (97<=c.toNat/\c.toNat<=122)||decide (65<=c.toNat/\c.toNat<=90)):=by
 have: ∀n:Fin 256,fd (UInt8.ofNat n.val)=(decide (97<=(UInt8.ofNat n.val).toNat/\(UInt8.ofNat n.val).toNat<=122)||decide (65<=(UInt8.ofNat n.val).toNat/\(UInt8.ofNat n.val).toNat<=90)):=by decide+kernel
 have h:=this ⟨c.toNat,c.toNat_lt⟩;rwa [fR]at h
def ya:List (List UInt8):=[[118,97,114],[102,117,110,99],[105,102],[101,108,115,101],[119,104,105,108,101],[114,101,116,117,114,110]]
def nB (l:List UInt8):Bool:=ya.contains l
def bS (p:UInt8->Bool):List UInt8->Nat
 | []=>0
 |c::l=>if p c then bS p l+1 else 0
theorem eY (p:UInt8->Bool): ∀l,bS p l<=l.length
 | []=>ag _
 |c::l=>by
  simp only[bS];split
  ·have:=eY p l;simp;omega
  ·simp
theorem gh (p:UInt8->Bool): ∀(l:List UInt8) (j:Nat),j<=bS p l->bS p l=j+bS p (l.drop j)
 |l,0,_=>by simp
 | [],j+1,h=>by simp[bS]at h
 |c::l,j+1,h=>by
  simp only[bS]at h⊢;split at h
  ·rename_i hc;rw[if_pos hc,ab,gh p l j (by omega)];omega
  ·omega
theorem ia (p:UInt8->Bool) {l:List UInt8} {j:Nat} (h:j<l.length):bS p (l.drop j)=if p l[j]then bS p (l.drop (j+1))+1 else 0:=by
 rw[aX h];rfl
def bY:Bool->List UInt8->Nat
 | _,[]=>0
 |false,c::l=>if tN c then bY false l+1 else if c=47/\l.head? =some 47 then bY true l+1 else 0
 |true,c::l=>if c=10 then bY false l+1 else bY true l+1
theorem ib: ∀(b:Bool) (l:List UInt8),bY b l<=l.length
 |b,[]=>by cases b<;>simp[bY]
 |false,c::l=>by
  simp only[bY];split
  ·have:=ib false l;simp;omega
  ·split
   ·have:=ib true l;simp;omega
   ·simp
 |true,c::l=>by
  simp only[bY];split
  ·have:=ib false l;simp;omega
  ·have:=ib true l;simp;omega
def dJ:List UInt8->Nat:=bS (fun c=>c !=10)
theorem mA: ∀l,bY true l=dJ l+bY false (l.drop (dJ l))
 | []=>rfl
 |c::l=>by
  simp only[bY,dJ,bS];by_cases hc:c=10
  ·subst hc;have hb:((10:UInt8) !=10)=false:=by decide
   have hw:tN 10=true:=by decide
   rw[if_pos rfl,if_neg (by rw[hb];simp)];simp[bY,hw]
  ·have hb:(c !=10)=true:=by simp[hc]
   rw[if_neg hc,if_pos hb,mA l,ab];simp only[dJ];omega
theorem kr {l:List UInt8} (h: ∃r,l=47::47::r):bY false l=dJ l+bY false (l.drop (dJ l)):=by
 obtain⟨r,rfl⟩:=h;rw[<-mA];have h1:tN 47=false:=by decide
 have h2: ¬(47:UInt8)=10:=by decide
 simp[bY,h1,h2]
def fI (c:UInt8):Option UInt8:=if c=110 then some 10 else if c=116 then some 9 else if c=48 then some 0 else if c=92 then some 92 else if c=39 then some 39 else if c=34 then some 34 else none
def bI:List UInt8->UInt8×Nat
 | []=>(0,0)
 |c::r=>if c.toNat<32\/126<c.toNat then(0,0)else if c≠92 then(c,1)else match r with
  | []=>(0,0)
  |d::_=>match fI d with
   |some v=>(v,2)
   |none=>(0,0)
theorem ij (l:List UInt8):(bI l).2<=l.length/\(bI l).2<=2:=by
 match l with
 | []=>exact⟨ag _,by decide⟩
 | [c]=>
  simp only[bI];split
  ·exact⟨by simp,by simp⟩
  ·split
   ·exact⟨by simp,by simp⟩
   ·exact⟨by simp,by simp⟩
 |c::d::r=>
  simp only[bI];split
  ·exact⟨by simp,by simp⟩
  ·split
   ·exact⟨by simp,by simp⟩
   ·split<;>exact⟨by simp,by simp⟩
def l_:Nat->List UInt8->Option (List UInt8×Nat)
 |0,_=>none
 |f+1,m=>match m with
  | []=>none
  |c::r=>if c=34 then some ([],1)else if(bI (c::r)).2=0 then none else(l_ f ((c::r).drop (bI (c::r)).2)).map fun x=>((bI (c::r)).1::x.1,(bI (c::r)).2+x.2)
theorem ob: ∀(f g:Nat) (m:List UInt8),m.length<=f->f<=g->l_ g m=l_ f m
 |0,g,m,h,_=>by
  have:m=[]:=aV (by omega);subst this
  cases g<;>rfl
 |f+1,0,m,h,hg=>by omega
 |f+1,g+1,m,h,hg=>by
  cases m with
  |nil=>rfl
  |cons c r=>
   simp only[l_];split
   ·rfl
   ·split
    ·rfl
    ·rename_i h0;rw[ob f g _ (by have:=ij (c::r);simp only[aZ,ac]at h⊢;omega) (by omega)]
def f6 (m:List UInt8):Option (List UInt8×Nat):=l_ m.length m
theorem uI (r:List UInt8):f6 (34::r)=some ([],1):=by simp[f6,l_]
theorem uJ {c:UInt8} {r:List UInt8} (h:c≠34) (h0:(bI (c::r)).2=0):f6 (c::r)=none:=by
 simp only[f6,ac,l_];rw[if_neg h,if_pos h0]
theorem th {c:UInt8} {r:List UInt8} (h:c≠34) (h0:(bI (c::r)).2≠0):f6 (c::r)=(f6 ((c::r).drop (bI (c::r)).2)).map fun x=>((bI (c::r)).1::x.1,(bI (c::r)).2+x.2):=by
 have hl:=ij (c::r);simp only[f6,ac,l_];rw[if_neg h,if_neg h0,ob _ r.length _ (ag _) (by simp only[aZ,ac];omega)]
def gY (l:List UInt8):Nat:=l.foldl (fun v c=>v*10+(c.toNat-48)) 0
abbrev qC:=Except Int ((Int×List UInt8×Int)×Nat)
def fK (l:List UInt8):qC:=if nB (l.take (bS c_ l))then .ok ((2,l.take (bS c_ l),0),bS c_ l)else if 14<bS c_ l then .error 6 else .ok ((1,l.take (bS c_ l),0),bS c_ l)
def eP (l:List UInt8):qC:=
 if(l.drop (bS cX l)).head?.any c_ then .error 3
 else if 10<bS cX l\/(1<bS cX l/\l.head? =some 48)\/2147483647<gY (l.take (bS cX l))then .error 2
 else .ok ((3,[],gY (l.take (bS cX l))),bS cX l)
def ff (l:List UInt8):qC:=
 if(bI (l.drop 1)).2=0\/(l.drop 1).head? =some 39\/(l.drop ((bI (l.drop 1)).2+1)).head? ≠some 39 then .error 3 else .ok ((3,[],((bI (l.drop 1)).1.toNat:Int)),(bI (l.drop 1)).2+2)
def gx (l:List UInt8):qC:=match f6 (l.drop 1)with
 |none=> .error 3
 |some (t,n)=>if 128<t.length then .error 6 else .ok ((4,t,0),n+1)
def two:List (List UInt8):=[[61,61],[33,61],[60,61],[62,61],[38,38],[124,124]]
def lC:List UInt8:=[40,41,123,125,91,93,44,59,61,43,45,42,47,37,60,62,33]
def fA (l:List UInt8):qC:=if two.contains (l.take 2)then .ok ((5,l.take 2,0),2)else if(l.head?.any fun c=>lC.contains c)then .ok ((5,l.take 1,0),1)else .error 3
def jn (l:List UInt8):qC:=match l with
 | []=> .error 3
 |c::r=>if fd c then fK (c::r)else if cX c then eP (c::r)else if c=39 then ff (c::r)else if c=34 then gx (c::r)else fA (c::r)
structure bB where
 k:Int
 t:List UInt8
 v:Int
 f:Int
deriving DecidableEq
def ga:Nat->List UInt8->Nat->Except (Nat×Int) (List bB)
 |0,_,_=> .ok []
 |f+1,m,at_=>
  match m.drop (bY false m)with
  | []=> .ok []
  |c::r=>match jn (c::r)with
   | .error e=> .error (at_+bY false m,e)
   | .ok ((k,t,v),n)=>match ga f ((c::r).drop n) (at_+bY false m+n)with
    | .error e=> .error e
    | .ok ts=> .ok (⟨k,t,v,(at_+bY false m:Nat)⟩::ts)
def lx (l:List UInt8):Except (Nat×Int) (List bB):=ga (l.length+1) l 0
def fz (l:List UInt8):List bB×Int×Int:=if 4000<l.length then([],4000,6)else match lx l with
 | .ok ts=>(ts,0,0)
 | .error (p,e)=>([],p,e)
end
section
open Go.RowKit
theorem mixed:prog.follows .mixedOrders=true:=by kernel_rfl
theorem b5 {a b:Bool} (h:a=b):Ending.returned (.bool a)= .returned (.bool b):=by rw[h]
theorem gU {k:IntKind} {a b:Int} (h:a=b):Ending.returned (.int k a)= .returned (.int k b):=by rw[h]
theorem yl (x y:UInt8):bits .or .u8 (x.toNat:Int) (y.toNat:Int)=((x|||y).toNat:Int):=by
 show IntKind.u8.wrap ((BitVec.ofInt 8 (x.toNat:Int)|||BitVec.ofInt 8 (y.toNat:Int)).toNat:Int)=_;have e: ∀z:UInt8,BitVec.ofInt 8 (z.toNat:Int)=z.toBitVec:=fun z=>by
  rw[BitVec.ofInt_natCast];exact BitVec.eq_of_toNat_eq (by simp)
 rw[e,e,<-UInt8.toBitVec_or];generalize x|||y=z;have hz:=z.toNat_lt;show IntKind.u8.wrap (z.toNat:Int)=(z.toNat:Int);simp only[IntKind.wrap,IntKind.signed,IntKind.bits];simp;omega
theorem kD (c:UInt8) (w:World):Calls prog 75 #[.int .u8 (c.toNat:Int)] w fun e w'=>e= .returned (.bool (fd c))/\w=w':=by
 have h:=yl c 32;have e:((32:UInt8).toNat:Int)=32:=rfl;rw[e]at h;have HB:=G (show fd c=decide (97<=(c|||32).toNat/\(c|||32).toNat<=122)from rfl);generalize (c|||32)=q at*;clear e;by_cases h1:97<=q.toNat
 ·by_cases h2:q.toNat<=122
  ·have HC:=G (show fd c=true by rw[HB.out];simp[h1,h2]);have h1':(97:Int)<=q.toNat:=by omega
   have h2':(q.toNat:Int)<=122:=by omega
   go_enter func75,ntmps75;go_wp2;go_ret;exact⟨b5 HC.out.symm,rfl⟩
  ·have HC:=G (show fd c=false by rw[HB.out];simp[h1,h2]);have h1':(97:Int)<=q.toNat:=by omega
   have h2': ¬(q.toNat:Int)<=122:=by omega
   go_enter func75,ntmps75;go_wp2;go_ret;exact⟨b5 HC.out.symm,rfl⟩
 ·have HC:=G (show fd c=false by rw[HB.out];simp[h1]);have h1': ¬(97:Int)<=q.toNat:=by omega
  go_enter func75,ntmps75;go_wp2;go_ret;exact⟨b5 HC.out.symm,rfl⟩
theorem lH (c:UInt8) (w:World):Calls prog 110 #[.int .u8 (c.toNat:Int)] w fun e w'=>e= .returned (.bool (cX c))/\w=w':=by
 have HB:=G (show cX c=decide (48<=c.toNat/\c.toNat<=57)from rfl);by_cases h1:48<=c.toNat
 ·by_cases h2:c.toNat<=57
  ·have HC:=G (show cX c=true by rw[HB.out];simp[h1,h2]);have h1':(48:Int)<=c.toNat:=by omega
   have h2':(c.toNat:Int)<=57:=by omega
   go_enter func110,ntmps110;go_wp2;go_ret;exact⟨b5 HC.out.symm,rfl⟩
  ·have HC:=G (show cX c=false by rw[HB.out];simp[h1,h2]);have h1':(48:Int)<=c.toNat:=by omega
   have h2': ¬(c.toNat:Int)<=57:=by omega
   go_enter func110,ntmps110;go_wp2;go_ret;exact⟨b5 HC.out.symm,rfl⟩
 ·have HC:=G (show cX c=false by rw[HB.out];simp[h1]);have h1': ¬(48:Int)<=c.toNat:=by omega
  go_enter func110,ntmps110;go_wp2;go_ret;exact⟨b5 HC.out.symm,rfl⟩
theorem bQ (a:UInt8) (n:Nat) (hn:n<256):((a.toNat:Int)==(n:Int))=(a==UInt8.ofNat n):=by
 by_cases h:a=UInt8.ofNat n
 ·subst h;have:(UInt8.ofNat n).toNat=n:=by rw[UInt8.toNat_ofNat'];omega
  rw[this];simp
 ·have h2:(a.toNat:Int)≠(n:Int):=fun e=>h (UInt8.toNat_inj.1 (by rw[UInt8.toNat_ofNat'];omega));rw[beq_eq_false_iff_ne.2 h,beq_eq_false_iff_ne.2 h2]
theorem kV (c:UInt8) (w:World):Calls prog 74 #[.int .u8 (c.toNat:Int)] w fun e w'=>e= .returned (.bool (c_ c))/\w=w':=by
 have h95:((c.toNat:Int)==95)=(c==95):=bQ c 95 (by omega);have HL:=G (kD c w);have HD:=G (lH c w);have HB:=G (show c_ c=(fd c||cX c||c==95)from rfl);generalize fd c=l at*;generalize cX c=d at*;generalize (c==95)=u at*
 cases l<;>cases d<;>cases u;all_goals
  go_enter func74,ntmps74
  go_wp2_with (first
   |(go_at_call 75;refine HL.out.mono ?_;rintro e w' ⟨rfl,rfl⟩)
   |(go_at_call 110;refine HD.out.mono ?_;rintro e w' ⟨rfl,rfl⟩))
  go_ret;exact⟨b5 (by rw[HB.out];rfl),rfl⟩
theorem e_ (c:UInt8) (w:World):Calls prog 93 #[.int .u8 (c.toNat:Int)] w fun e w'=>e= .returned (.bool (fd c))/\w=w':=by
 have HB:=G (uM c);have hw:c.toNat<65\/(65<=c.toNat/\c.toNat<=90)\/(90<c.toNat/\c.toNat<97)\/(97<=c.toNat/\c.toNat<=122)\/122<c.toNat:=by omega
 generalize hn:c.toNat=n at*;have HN:=G hn;clear hn;rcases hw with h|⟨h1,h2⟩|⟨h1,h2⟩|⟨h1,h2⟩|h
 ·have HC:=G (show fd c=false by rw[HB.out];simp;omega);have h':(n:Int)<65:=by omega
  go_enter func93,ntmps93;go_wp2;go_ret;exact⟨b5 HC.out.symm,rfl⟩
 ·have HC:=G (show fd c=true by rw[HB.out];simp;omega);have h1':(65:Int)<=n:=by omega
  have h2':(n:Int)<=90:=by omega
  go_enter func93,ntmps93;go_wp2;go_ret;exact⟨b5 HC.out.symm,rfl⟩
 ·have HC:=G (show fd c=false by rw[HB.out];simp;omega);have h1':decide ((n:Int)<=90)=false:=by simp;omega
  have h2':decide ((97:Int)<=n)=false:=by simp;omega
  have h3':(65:Int)<=n:=by omega
  have h4': ¬(97:Int)<=n:=by omega
  go_enter func93,ntmps93;go_wp2;go_ret;exact⟨b5 HC.out.symm,rfl⟩
 ·have HC:=G (show fd c=true by rw[HB.out];simp;omega);have h1':(97:Int)<=n:=by omega
  have h2':(n:Int)<=122:=by omega
  go_enter func93,ntmps93;go_wp2;go_ret;exact⟨b5 HC.out.symm,rfl⟩
 ·have HC:=G (show fd c=false by rw[HB.out];simp;omega);have h1':decide ((n:Int)<=90)=false:=by simp;omega
  have h2':decide ((n:Int)<=122)=false:=by simp;omega
  have h3':(97:Int)<=n:=by omega
  have h4':(65:Int)<=n:=by omega
  go_enter func93,ntmps93;go_wp2;go_ret;exact⟨b5 HC.out.symm,rfl⟩
theorem fa (c:UInt8) (w:World):Calls prog 101 #[.int .u8 (c.toNat:Int)] w fun e w'=>e= .returned (.bool (cX c))/\w=w':=by
 have HB:=G (show cX c=decide (48<=c.toNat/\c.toNat<=57)from rfl);by_cases h1:48<=c.toNat
 ·by_cases h2:c.toNat<=57
  ·have HC:=G (show cX c=true by rw[HB.out];simp[h1,h2]);have h1':(48:Int)<=c.toNat:=by omega
   have h2':(c.toNat:Int)<=57:=by omega
   go_enter func101,ntmps101;go_wp2;go_ret;exact⟨b5 HC.out.symm,rfl⟩
  ·have HC:=G (show cX c=false by rw[HB.out];simp[h1,h2]);have h1':(48:Int)<=c.toNat:=by omega
   have h2': ¬(c.toNat:Int)<=57:=by omega
   go_enter func101,ntmps101;go_wp2;go_ret;exact⟨b5 HC.out.symm,rfl⟩
 ·have HC:=G (show cX c=false by rw[HB.out];simp[h1]);have h1': ¬(48:Int)<=c.toNat:=by omega
  go_enter func101,ntmps101;go_wp2;go_ret;exact⟨b5 HC.out.symm,rfl⟩
theorem jf (c:UInt8) (w:World):Calls prog 95 #[.int .u8 (c.toNat:Int)] w fun e w'=>e= .returned (.bool (c_ c))/\w=w':=by
 have h95:((c.toNat:Int)==95)=(c==95):=bQ c 95 (by omega);have HL:=G (e_ c w);have HD:=G (fa c w);have HB:=G (show c_ c=(fd c||cX c||c==95)from rfl);generalize fd c=l at*;generalize cX c=d at*;generalize (c==95)=u at*
 cases l<;>cases d<;>cases u;all_goals
  go_enter func95,ntmps95
  go_wp2_with (first
   |(go_at_call 93;refine HL.out.mono ?_;rintro e w' ⟨rfl,rfl⟩)
   |(go_at_call 101;refine HD.out.mono ?_;rintro e w' ⟨rfl,rfl⟩))
  go_ret;exact⟨b5 (by rw[HB.out];rfl),rfl⟩
theorem aM (l:List UInt8):(ae l).size=l.length:=by
 show l.toArray.size=l.length;simp
theorem fC (l:List UInt8) (j:Nat) (h:j<(ae l).size):(ae l)[j]=l[j]'(by rw[<-aM];exact h):=rfl
theorem bR (l:List UInt8) (a b:Nat):(ae l).extract a b=ae ((l.take b).drop a):=by
 apply ByteArray.ext;rw[ByteArray.data_extract];apply Array.ext';show(l.toArray.extract a b).toList=((l.take b).drop a);rw[Array.toList_extract,List.drop_take]
theorem pU (p:UInt8->Bool) (fn:Nat) (hfn: ∀(c:UInt8) (w:World),Calls prog fn #[.int .u8 (c.toNat:Int)] w fun e w'=>e= .returned (.bool (p c))/\w=w') (hf:fn=74\/fn=110) (l:List UInt8) (hl:l.length<=100000) (w:World):
  Calls prog 137 #[.string (ae l), .func (.func fn) #[] #[]] w fun e w'=>e= .returned (.int .i64 (bS p l))/\w=w':=by
 have HF:=G hfn;have hsz:=aM l;have hm:=eY p l;clear hfn;rcases hf with rfl|rfl;all_goals
  go_enter func137,ntmps137;go_wp2_with fail
  go_loop [5] (fun vi=> ∃j:Nat,vi= .int .i64 j/\j<=bS p l) (fun vi=>l.length-(intOf vi).toNat)
  case atStart=>exact⟨0,rfl,aB _⟩
  case round=>
   obtain⟨j,rfl,hj⟩:=hrel;by_cases hlt:j<l.length
   ·have hjs:j<(ae l).size:=by rw[aM];exact hlt
    have hg:=fC l j hjs;have hst:=ia p hlt;have hdr:=gh p l j hj;have HCC:=G (HF.out l[j] w);have hlt':(j:Int)<l.length:=by omega
    generalize l[j]'hlt=c at*
    cases hp:p c with
    |true=>
     rw[hp,if_pos rfl]at hst;have HJ:=G (show j+1<=bS p l by omega);rw[hp]at HCC;clear hst hdr hp;go_wp2_with (refine HCC.out.mono ?_;rintro e w' ⟨rfl,rfl⟩)
     go_round
     case rel=>exact⟨j+1,by go_num,HJ.out⟩
     case measure=>simp[intOf];omega
    |false=>
     rw[hp,if_neg (by simp)]at hst;have HJ:=G (show bS p l=j by omega);rw[hp]at HCC;clear hst hdr hp;go_wp2_with (refine HCC.out.mono ?_;rintro e w' ⟨rfl,rfl⟩);go_ret;exact⟨gU (by rw[HJ.out]),rfl⟩
   ·have HJ:=G (show bS p l=j by omega);have hlt': ¬(j:Int)<l.length:=by omega
    go_wp2_with fail;go_ret;exact⟨gU (by rw[HJ.out]),rfl⟩
end
section
open Go.RowKit
theorem wh (l:List UInt8):(nB l=true/\(l=[118,97,114]\/l=[102,117,110,99]\/l=[105,102]\/l=[101,108,115,101]\/l=[119,104,105,108,101]\/l=[114,101,116,117,114,110]))\/
  (nB l=false/\(l==[118,97,114])=false/\(l==[102,117,110,99])=false/\(l==[105,102])=false/\(l==[101,108,115,101])=false/\(l==[119,104,105,108,101])=false/\(l==[114,101,116,117,114,110])=false):=by
 cases h:nB l with
 |true=>
  refine .inl ⟨rfl,?_⟩;unfold nB ya at h;simpa using h
 |false=>
  refine .inr ⟨rfl,?_⟩;unfold nB ya at h;simp only[eG,Bool.or_eq_false_iff]at h;exact⟨h.1,h.2.1,h.2.2.1,h.2.2.2.1,h.2.2.2.2.1,h.2.2.2.2.2.1⟩
theorem lZ (l:List UInt8) (w:World):Calls prog 76 #[.string (ae l)] w fun e w'=>e= .returned (.bool (nB l))/\w=w':=by
 rcases wh l with⟨h,rfl|rfl|rfl|rfl|rfl|rfl⟩|⟨h,h1,h2,h3,h4,h5,h6⟩
 all_goals
  have HK:=G h;clear h;go_enter func76,ntmps76;go_wp2_with fail;go_ret;exact⟨b5 HK.out.symm,rfl⟩
def mS (ls:List (List UInt8)) (l:List UInt8):Bool:=ls.contains l
structure Ss (w:World) (A:Option Addr) (cap:Nat) (ls:List (List UInt8)):Prop where
 le:ls.length<=cap
 rd:ls=[]\/ ∃b off,A=some ⟨b,off,none⟩/\b<w.heap.size/\ ∀i,(h:i<ls.length)->w.cell? ⟨b,off+i,none⟩=some (.string (ae ls[i]))
theorem o_ (A:Option Addr) (cap:Nat) (ls:List (List UInt8)) (l:List UInt8) (w:World) (hs:Ss w A cap ls) (hl:ls.length<=1000):
  Calls prog 105 #[.slice A ls.length cap, .string (ae l)] w fun e w'=>e= .returned (.bool (mS ls l))/\w=w':=by
 have HS:=G hs;clear hs;go_enter func105,ntmps105;go_wp2_with fail
 go_loop [5] (fun vi=> ∃j:Nat,vi= .int .i64 j/\j<=ls.length/\Hid (mS ls l=mS (ls.drop j) l)) (fun vi=>ls.length-(intOf vi).toNat)
 case atStart=>exact⟨0,rfl,aB _,G rfl⟩
 case round=>
  obtain⟨j,rfl,hj,HT⟩:=hrel;by_cases hlt:j<ls.length
  ·rcases HS.out.rd with h0|⟨b,off,rfl,hb,hc⟩
   ·rw[h0]at hlt;simp at hlt
   ·have hcj:=hc j hlt;have HD:=G (show mS (ls.drop j) l=(l==ls[j]||mS (ls.drop (j+1)) l) by unfold mS;rw[aX hlt,eG]);generalize ls[j]'hlt=k at*;clear hc;have hlt':(j:Int)<ls.length:=by omega
    cases hk:(l==k)with
    |true=>
     have HE:=G (show mS ls l=true by rw[HT.out,HD.out,hk];rfl);have hk2:(k==l)=true:=by have:=beq_iff_eq.1 hk;subst this;simp
     clear hk;go_wp2_with fail;go_ret;exact⟨b5 HE.out.symm,rfl⟩
    |false=>
     have HE:=G (show mS ls l=mS (ls.drop (j+1)) l by rw[HT.out,HD.out,hk];rfl);have hk2:(k==l)=false:=by rw[beq_eq_false_iff_ne]at hk⊢;exact fun e=>hk e.symm
     clear hk;go_wp2_with fail
     go_round
     case rel=>exact⟨j+1,by go_num,by omega,HE⟩
     case measure=>simp[intOf];omega
  ·have hlt': ¬(j:Int)<ls.length:=by omega
   have HE:=G (show mS ls l=false by rw[HT.out,bq (by omega)];rfl);go_wp2_with fail;go_ret;exact⟨b5 HE.out.symm,rfl⟩
theorem js (l:List UInt8) (w:World):Calls prog 94 #[.string (ae l)] w fun e w'=>e= .returned (.bool (nB l))/\al w w':=by
 have hb: ∀cs:Array Value,aT (w.alloc (.cells cs 9)) w.heap.size 9 cs:=fun cs=>ai w 9 cs
 have HS:=G (show Ss (w.alloc (.cells #[.string (ae [118,97,114]), .string (ae [102,117,110,99]), .string (ae [105,102]), .string (ae [101,108,115,101]), .string (ae [119,104,105,108,101]), .string (ae [114,101,116,117,114,110])] 9)) (some ⟨w.heap.size,0,none⟩) 6 ya from
  ⟨by decide, .inr ⟨w.heap.size,0,rfl,by simp,fun i hi=>by
   rw[ak,(hb _).cell];have hi:i<6:=hi;have hc:i=0\/i=1\/i=2\/i=3\/i=4\/i=5:=by omega
   rcases hc with rfl|rfl|rfl|rfl|rfl|rfl<;>rfl⟩⟩)
 have HK:=G (show nB l=mS ya l from rfl);clear hb;go_enter func94,ntmps94;go_wp2_with fail;refine(o_ _ 6 ya l _ HS.out (by decide)).mono ?_;rintro e w' ⟨rfl,rfl⟩;go_wp2_with fail;go_ret;exact⟨b5 HK.out.symm,O w _⟩
end
section
open Go.RowKit
def eE:List (UInt8×UInt8):=[(110,10),(116,9),(48,0),(92,92),(39,39),(34,34)]
def eD:List (UInt8×UInt8)->UInt8->Option UInt8
 | [],_=>none
 |x::l,d=>if d=x.1 then some x.2 else eD l d
theorem r7 (d:UInt8):fI d=eD eE d:=by unfold fI eE;simp only[eD]
theorem eB {a b:Int} {c d:Int} (h:a=b) (h2:c=d):Ending.returned (.tuple #[.int .u8 a, .int .i64 c])= .returned (.tuple #[.int .u8 b, .int .i64 d]):=by rw[h,h2]
theorem vj (d:UInt8) (r:List UInt8) (w:World) (hl:r.length<=100000):
  Calls prog 139 #[.string (ae (92::d::r))] w fun e w'=>e= .returned (.tuple #[.int .u8 ((bI (92::d::r)).1.toNat:Int), .int .i64 ((bI (92::d::r)).2:Int)])/\al w w':=by
 have hsz:(ae (92::d::r)).size=r.length+2:=by rw[aM];rfl
 have h0:(0:Nat)<(ae (92::d::r)).size:=by rw[hsz];omega
 have h1:(1:Nat)<(ae (92::d::r)).size:=by rw[hsz];omega
 have g0:(ae (92::d::r))[0]=92:=rfl;have g1:(ae (92::d::r))[1]=d:=rfl;have hlp:(1:Int)<(r.length:Int)+2:=by omega
 have HV:=G (r7 d);go_enter func139,ntmps139;go_wp2_with fail
 go_loopw [4] (fun vi wr=>((vi= .int .i64 1/\Hid (fI d=eD (eE.drop 0) d))\/(vi= .int .i64 3/\Hid (fI d=eD (eE.drop 1) d))\/(vi= .int .i64 5/\Hid (fI d=eD (eE.drop 2) d))\/(vi= .int .i64 7/\Hid (fI d=eD (eE.drop 3) d))\/(vi= .int .i64 9/\Hid (fI d=eD (eE.drop 4) d))\/(vi= .int .i64 11/\Hid (fI d=eD (eE.drop 5) d))\/(vi= .int .i64 13/\Hid (fI d=eD (eE.drop 6) d)))/\Hid (al w wr)) (fun vi _=>14-(intOf vi).toNat)
 case atStart=>exact⟨.inl ⟨rfl,G rfl⟩,G (aG w)⟩
 case round=>
  obtain⟨hv,HX⟩:=hrel;rcases hv with⟨rfl,HT⟩|⟨rfl,HT⟩|⟨rfl,HT⟩|⟨rfl,HT⟩|⟨rfl,HT⟩|⟨rfl,HT⟩|⟨rfl,HT⟩
  ·have k1: ∀h,(⟨#[10,110,9,116,0,48,92,92,39,39,34,34]⟩:ByteArray)[1]'h=110:=fun _=>rfl;have k2: ∀h,(⟨#[10,110,9,116,0,48,92,92,39,39,34,34]⟩:ByteArray)[0]'h=10:=fun _=>rfl;by_cases hd:d=110
   ·subst hd;have HR:=G (show bI (92::110::r)=(10,2)from rfl);clear HT HV;go_wp2_with fail;refine am 5 1 [] mixed (by kernel_rfl) trivial ?_;repeat (refine sx ?_ (fun w1 hU=> ?_) ?_;rotate_left;(focus clear hU;go_simp<;>with_reducible rfl);simp only[bf,be,bc,a_,a8])
    intro w7 hw7 _;simp only[ab,aC];have HK:=G (HX.out.trans hw7.un);clear hw7;go_wp2_with fail;go_ret2;exact⟨eB (by rw[HR.out];rfl) (by rw[HR.out];rfl),HK.out⟩
   ·have hde:((d.toNat:Int)==110)=false:=(bQ d 110 (by omega)).trans (beq_eq_false_iff_ne.2 hd);have hde2:((110:Int)==(d.toNat:Int))=false:=by rw[beq_eq_false_iff_ne]at hde⊢;exact fun e=>hde e.symm
    have HN:=G (show fI d=eD (eE.drop 1) d by rw[HT.out];unfold eE;simp only[ab,ap,eD];rw[if_neg hd]);clear hd;go_wp2_with fail;refine am 5 1 [] mixed (by kernel_rfl) trivial ?_;repeat (refine sx ?_ (fun w1 hU=> ?_) ?_;rotate_left;(focus clear hU;go_simp<;>with_reducible rfl);simp only[bf,be,bc,a_,a8])
    intro w7 hw7 _;simp only[ab,aC];have HK:=G (HX.out.trans hw7.un);clear hw7;go_wp2_with fail;go_roundw
    case rel=>exact⟨.inr (.inl ⟨rfl,HN⟩),HK⟩
    case measure=>simp[intOf]
  ·have k1: ∀h,(⟨#[10,110,9,116,0,48,92,92,39,39,34,34]⟩:ByteArray)[3]'h=116:=fun _=>rfl;have k2: ∀h,(⟨#[10,110,9,116,0,48,92,92,39,39,34,34]⟩:ByteArray)[2]'h=9:=fun _=>rfl;by_cases hd:d=116
   ·subst hd;have HR:=G (show bI (92::116::r)=(9,2)from rfl);clear HT HV;go_wp2_with fail;refine am 5 1 [] mixed (by kernel_rfl) trivial ?_;repeat (refine sx ?_ (fun w1 hU=> ?_) ?_;rotate_left;(focus clear hU;go_simp<;>with_reducible rfl);simp only[bf,be,bc,a_,a8])
    intro w7 hw7 _;simp only[ab,aC];have HK:=G (HX.out.trans hw7.un);clear hw7;go_wp2_with fail;go_ret2;exact⟨eB (by rw[HR.out];rfl) (by rw[HR.out];rfl),HK.out⟩
   ·have hde:((d.toNat:Int)==116)=false:=(bQ d 116 (by omega)).trans (beq_eq_false_iff_ne.2 hd);have hde2:((116:Int)==(d.toNat:Int))=false:=by rw[beq_eq_false_iff_ne]at hde⊢;exact fun e=>hde e.symm
    have HN:=G (show fI d=eD (eE.drop 2) d by rw[HT.out];unfold eE;simp only[ab,ap,eD];rw[if_neg hd]);clear hd;go_wp2_with fail;refine am 5 1 [] mixed (by kernel_rfl) trivial ?_;repeat (refine sx ?_ (fun w1 hU=> ?_) ?_;rotate_left;(focus clear hU;go_simp<;>with_reducible rfl);simp only[bf,be,bc,a_,a8])
    intro w7 hw7 _;simp only[ab,aC];have HK:=G (HX.out.trans hw7.un);clear hw7;go_wp2_with fail;go_roundw
    case rel=>exact⟨.inr (.inr (.inl ⟨rfl,HN⟩)),HK⟩
    case measure=>simp[intOf]
  ·have k1: ∀h,(⟨#[10,110,9,116,0,48,92,92,39,39,34,34]⟩:ByteArray)[5]'h=48:=fun _=>rfl;have k2: ∀h,(⟨#[10,110,9,116,0,48,92,92,39,39,34,34]⟩:ByteArray)[4]'h=0:=fun _=>rfl;by_cases hd:d=48
   ·subst hd;have HR:=G (show bI (92::48::r)=(0,2)from rfl);clear HT HV;go_wp2_with fail;refine am 5 1 [] mixed (by kernel_rfl) trivial ?_;repeat (refine sx ?_ (fun w1 hU=> ?_) ?_;rotate_left;(focus clear hU;go_simp<;>with_reducible rfl);simp only[bf,be,bc,a_,a8])
    intro w7 hw7 _;simp only[ab,aC];have HK:=G (HX.out.trans hw7.un);clear hw7;go_wp2_with fail;go_ret2;exact⟨eB (by rw[HR.out];rfl) (by rw[HR.out];rfl),HK.out⟩
   ·have hde:((d.toNat:Int)==48)=false:=(bQ d 48 (by omega)).trans (beq_eq_false_iff_ne.2 hd);have hde2:((48:Int)==(d.toNat:Int))=false:=by rw[beq_eq_false_iff_ne]at hde⊢;exact fun e=>hde e.symm
    have HN:=G (show fI d=eD (eE.drop 3) d by rw[HT.out];unfold eE;simp only[ab,ap,eD];rw[if_neg hd]);clear hd;go_wp2_with fail;refine am 5 1 [] mixed (by kernel_rfl) trivial ?_;repeat (refine sx ?_ (fun w1 hU=> ?_) ?_;rotate_left;(focus clear hU;go_simp<;>with_reducible rfl);simp only[bf,be,bc,a_,a8])
    intro w7 hw7 _;simp only[ab,aC];have HK:=G (HX.out.trans hw7.un);clear hw7;go_wp2_with fail;go_roundw
    case rel=>exact⟨.inr (.inr (.inr (.inl ⟨rfl,HN⟩))),HK⟩
    case measure=>simp[intOf]
  ·have k1: ∀h,(⟨#[10,110,9,116,0,48,92,92,39,39,34,34]⟩:ByteArray)[7]'h=92:=fun _=>rfl;have k2: ∀h,(⟨#[10,110,9,116,0,48,92,92,39,39,34,34]⟩:ByteArray)[6]'h=92:=fun _=>rfl;by_cases hd:d=92
   ·subst hd;have HR:=G (show bI (92::92::r)=(92,2)from rfl);clear HT HV;go_wp2_with fail;refine am 5 1 [] mixed (by kernel_rfl) trivial ?_;repeat (refine sx ?_ (fun w1 hU=> ?_) ?_;rotate_left;(focus clear hU;go_simp<;>with_reducible rfl);simp only[bf,be,bc,a_,a8])
    intro w7 hw7 _;simp only[ab,aC];have HK:=G (HX.out.trans hw7.un);clear hw7;go_wp2_with fail;go_ret2;exact⟨eB (by rw[HR.out];rfl) (by rw[HR.out];rfl),HK.out⟩
   ·have hde:((d.toNat:Int)==92)=false:=(bQ d 92 (by omega)).trans (beq_eq_false_iff_ne.2 hd);have hde2:((92:Int)==(d.toNat:Int))=false:=by rw[beq_eq_false_iff_ne]at hde⊢;exact fun e=>hde e.symm
    have HN:=G (show fI d=eD (eE.drop 4) d by rw[HT.out];unfold eE;simp only[ab,ap,eD];rw[if_neg hd]);clear hd;go_wp2_with fail;refine am 5 1 [] mixed (by kernel_rfl) trivial ?_;repeat (refine sx ?_ (fun w1 hU=> ?_) ?_;rotate_left;(focus clear hU;go_simp<;>with_reducible rfl);simp only[bf,be,bc,a_,a8])
    intro w7 hw7 _;simp only[ab,aC];have HK:=G (HX.out.trans hw7.un);clear hw7;go_wp2_with fail;go_roundw
    case rel=>exact⟨.inr (.inr (.inr (.inr (.inl ⟨rfl,HN⟩)))),HK⟩
    case measure=>simp[intOf]
  ·have k1: ∀h,(⟨#[10,110,9,116,0,48,92,92,39,39,34,34]⟩:ByteArray)[9]'h=39:=fun _=>rfl;have k2: ∀h,(⟨#[10,110,9,116,0,48,92,92,39,39,34,34]⟩:ByteArray)[8]'h=39:=fun _=>rfl;by_cases hd:d=39
   ·subst hd;have HR:=G (show bI (92::39::r)=(39,2)from rfl);clear HT HV;go_wp2_with fail;refine am 5 1 [] mixed (by kernel_rfl) trivial ?_;repeat (refine sx ?_ (fun w1 hU=> ?_) ?_;rotate_left;(focus clear hU;go_simp<;>with_reducible rfl);simp only[bf,be,bc,a_,a8])
    intro w7 hw7 _;simp only[ab,aC];have HK:=G (HX.out.trans hw7.un);clear hw7;go_wp2_with fail;go_ret2;exact⟨eB (by rw[HR.out];rfl) (by rw[HR.out];rfl),HK.out⟩
   ·have hde:((d.toNat:Int)==39)=false:=(bQ d 39 (by omega)).trans (beq_eq_false_iff_ne.2 hd);have hde2:((39:Int)==(d.toNat:Int))=false:=by rw[beq_eq_false_iff_ne]at hde⊢;exact fun e=>hde e.symm
    have HN:=G (show fI d=eD (eE.drop 5) d by rw[HT.out];unfold eE;simp only[ab,ap,eD];rw[if_neg hd]);clear hd;go_wp2_with fail;refine am 5 1 [] mixed (by kernel_rfl) trivial ?_;repeat (refine sx ?_ (fun w1 hU=> ?_) ?_;rotate_left;(focus clear hU;go_simp<;>with_reducible rfl);simp only[bf,be,bc,a_,a8])
    intro w7 hw7 _;simp only[ab,aC];have HK:=G (HX.out.trans hw7.un);clear hw7;go_wp2_with fail;go_roundw
    case rel=>exact⟨.inr (.inr (.inr (.inr (.inr (.inl ⟨rfl,HN⟩))))),HK⟩
    case measure=>simp[intOf]
  ·have k1: ∀h,(⟨#[10,110,9,116,0,48,92,92,39,39,34,34]⟩:ByteArray)[11]'h=34:=fun _=>rfl;have k2: ∀h,(⟨#[10,110,9,116,0,48,92,92,39,39,34,34]⟩:ByteArray)[10]'h=34:=fun _=>rfl;by_cases hd:d=34
   ·subst hd;have HR:=G (show bI (92::34::r)=(34,2)from rfl);clear HT HV;go_wp2_with fail;refine am 5 1 [] mixed (by kernel_rfl) trivial ?_;repeat (refine sx ?_ (fun w1 hU=> ?_) ?_;rotate_left;(focus clear hU;go_simp<;>with_reducible rfl);simp only[bf,be,bc,a_,a8])
    intro w7 hw7 _;simp only[ab,aC];have HK:=G (HX.out.trans hw7.un);clear hw7;go_wp2_with fail;go_ret2;exact⟨eB (by rw[HR.out];rfl) (by rw[HR.out];rfl),HK.out⟩
   ·have hde:((d.toNat:Int)==34)=false:=(bQ d 34 (by omega)).trans (beq_eq_false_iff_ne.2 hd);have hde2:((34:Int)==(d.toNat:Int))=false:=by rw[beq_eq_false_iff_ne]at hde⊢;exact fun e=>hde e.symm
    have HN:=G (show fI d=eD (eE.drop 6) d by rw[HT.out];unfold eE;simp only[ab,ap,eD];rw[if_neg hd]);clear hd;go_wp2_with fail;refine am 5 1 [] mixed (by kernel_rfl) trivial ?_;repeat (refine sx ?_ (fun w1 hU=> ?_) ?_;rotate_left;(focus clear hU;go_simp<;>with_reducible rfl);simp only[bf,be,bc,a_,a8])
    intro w7 hw7 _;simp only[ab,aC];have HK:=G (HX.out.trans hw7.un);clear hw7;go_wp2_with fail;go_roundw
    case rel=>exact⟨.inr (.inr (.inr (.inr (.inr (.inr (⟨rfl,HN⟩)))))),HK⟩
    case measure=>simp[intOf]
  ·have HR:=G (show bI (92::d::r)=(0,0) by have h:fI d=none:=HT.out;simp[bI,h]);clear HT HV;go_wp2_with fail;go_ret2;exact⟨eB (by rw[HR.out];rfl) (by rw[HR.out];rfl),HX.out⟩
theorem qv (l:List UInt8) (w:World) (hl:l.length<=100000):
  Calls prog 139 #[.string (ae l)] w fun e w'=>e= .returned (.tuple #[.int .u8 ((bI l).1.toNat:Int), .int .i64 ((bI l).2:Int)])/\al w w':=by
 match l with
 | []=>
  go_enter func139,ntmps139;go_wp2_with fail;go_ret2;exact⟨rfl,aG w⟩
 |c::r=>
  have hsz:(ae (c::r)).size=r.length+1:=by rw[aM];rfl
  have h0:(0:Nat)<(ae (c::r)).size:=by rw[hsz];omega
  have g0:(ae (c::r))[0]=c:=rfl;by_cases h1:c.toNat<32
  ·have HR:=G (show bI (c::r)=(0,0) by simp[bI,h1]);have h1':(c.toNat:Int)<32:=by omega
   go_enter func139,ntmps139;go_wp2_with fail;go_ret2;exact⟨eB (by rw[HR.out];rfl) (by rw[HR.out];rfl),aG w⟩
  by_cases h2:126<c.toNat
  ·have HR:=G (show bI (c::r)=(0,0) by simp[bI,h2]);have h1': ¬(c.toNat:Int)<32:=by omega
   have h2':(126:Int)<c.toNat:=by omega
   go_enter func139,ntmps139;go_wp2_with fail;go_ret2;exact⟨eB (by rw[HR.out];rfl) (by rw[HR.out];rfl),aG w⟩
  have h1':decide ((c.toNat:Int)<32)=false:=by simp;omega
  have h2':decide ((126:Int)<c.toNat)=false:=by simp;omega
  by_cases h3:c=92
  ·subst h3
   match r with
   | []=>
    clear h1' h2';go_enter func139,ntmps139;go_wp2_with fail
    go_loopw [4] (fun vi wr=>vi= .int .i64 1/\wr=w) (fun vi _=>0)
    case atStart=>exact⟨rfl,rfl⟩
    case round=>
     obtain⟨rfl,rfl⟩:=hrel;go_wp2_with fail;go_ret2;exact⟨rfl,aG _⟩
   |d::r'=>exact vj d r' w (by simp at hl;omega)
  ·have HR:=G (show bI (c::r)=(c,1) by simp only[bI];rw[if_neg (by omega),if_pos h3]);have h3':((c.toNat:Int) !=92)=true:=by
    have h4:((c.toNat:Int)==92)=false:=(bQ c 92 (by omega)).trans (beq_eq_false_iff_ne.2 h3);rw[bne,h4];rfl
   have h5: ¬(c.toNat:Int)<32:=by omega
   have h6: ¬(126:Int)<c.toNat:=by omega
   clear h3;go_enter func139,ntmps139;go_wp2_with fail;go_ret2;exact⟨eB (by rw[HR.out]) (by rw[HR.out];rfl),aG w⟩
theorem sT (d:UInt8) (r:List UInt8) (w:World) (hl:r.length<=100000):
  Calls prog 103 #[.string (ae (92::d::r))] w fun e w'=>e= .returned (.tuple #[.int .u8 ((bI (92::d::r)).1.toNat:Int), .int .i64 ((bI (92::d::r)).2:Int)])/\al w w':=by
 have hsz:(ae (92::d::r)).size=r.length+2:=by rw[aM];rfl
 have h0:(0:Nat)<(ae (92::d::r)).size:=by rw[hsz];omega
 have h1:(1:Nat)<(ae (92::d::r)).size:=by rw[hsz];omega
 have g0:(ae (92::d::r))[0]=92:=rfl;have g1:(ae (92::d::r))[1]=d:=rfl;have hlp:(1:Int)<(r.length:Int)+2:=by omega
 have HV:=G (r7 d);go_enter func103,ntmps103;go_wp2_with fail
 go_loopw [6] (fun vi wr=>((vi= .int .i64 0/\Hid (fI d=eD (eE.drop 0) d))\/(vi= .int .i64 1/\Hid (fI d=eD (eE.drop 1) d))\/(vi= .int .i64 2/\Hid (fI d=eD (eE.drop 2) d))\/(vi= .int .i64 3/\Hid (fI d=eD (eE.drop 3) d))\/(vi= .int .i64 4/\Hid (fI d=eD (eE.drop 4) d))\/(vi= .int .i64 5/\Hid (fI d=eD (eE.drop 5) d))\/(vi= .int .i64 6/\Hid (fI d=eD (eE.drop 6) d)))/\Hid (al w wr)) (fun vi _=>7-(intOf vi).toNat)
 case atStart=>exact⟨.inl ⟨rfl,G rfl⟩,G (aG w)⟩
 case round=>
  obtain⟨hv,HX⟩:=hrel;rcases hv with⟨rfl,HT⟩|⟨rfl,HT⟩|⟨rfl,HT⟩|⟨rfl,HT⟩|⟨rfl,HT⟩|⟨rfl,HT⟩|⟨rfl,HT⟩
  ·have k1: ∀h,(⟨#[110,116,48,92,39,34]⟩:ByteArray)[0]'h=110:=fun _=>rfl;have k2: ∀h,(⟨#[10,9,0,92,39,34]⟩:ByteArray)[0]'h=10:=fun _=>rfl;by_cases hd:d=110
   ·subst hd;have HR:=G (show bI (92::110::r)=(10,2)from rfl);clear HT HV;go_wp2_with fail;refine am 6 1 [] mixed (by kernel_rfl) trivial ?_;repeat (refine sx ?_ (fun w1 hU=> ?_) ?_;rotate_left;(focus clear hU;go_simp<;>with_reducible rfl);simp only[bf,be,bc,a_,a8])
    intro w7 hw7 _;simp only[ab,aC];have HK:=G (HX.out.trans hw7.un);clear hw7;go_wp2_with fail;go_ret2;exact⟨eB (by rw[HR.out];rfl) (by rw[HR.out];rfl),HK.out⟩
   ·have hde:((d.toNat:Int)==110)=false:=(bQ d 110 (by omega)).trans (beq_eq_false_iff_ne.2 hd);have hde2:((110:Int)==(d.toNat:Int))=false:=by rw[beq_eq_false_iff_ne]at hde⊢;exact fun e=>hde e.symm
    have HN:=G (show fI d=eD (eE.drop 1) d by rw[HT.out];unfold eE;simp only[ab,ap,eD];rw[if_neg hd]);clear hd;go_wp2_with fail;refine am 6 1 [] mixed (by kernel_rfl) trivial ?_;repeat (refine sx ?_ (fun w1 hU=> ?_) ?_;rotate_left;(focus clear hU;go_simp<;>with_reducible rfl);simp only[bf,be,bc,a_,a8])
    intro w7 hw7 _;simp only[ab,aC];have HK:=G (HX.out.trans hw7.un);clear hw7;go_wp2_with fail;go_roundw
    case rel=>exact⟨.inr (.inl ⟨rfl,HN⟩),HK⟩
    case measure=>simp[intOf]
  ·have k1: ∀h,(⟨#[110,116,48,92,39,34]⟩:ByteArray)[1]'h=116:=fun _=>rfl;have k2: ∀h,(⟨#[10,9,0,92,39,34]⟩:ByteArray)[1]'h=9:=fun _=>rfl;by_cases hd:d=116
   ·subst hd;have HR:=G (show bI (92::116::r)=(9,2)from rfl);clear HT HV;go_wp2_with fail;refine am 6 1 [] mixed (by kernel_rfl) trivial ?_;repeat (refine sx ?_ (fun w1 hU=> ?_) ?_;rotate_left;(focus clear hU;go_simp<;>with_reducible rfl);simp only[bf,be,bc,a_,a8])
    intro w7 hw7 _;simp only[ab,aC];have HK:=G (HX.out.trans hw7.un);clear hw7;go_wp2_with fail;go_ret2;exact⟨eB (by rw[HR.out];rfl) (by rw[HR.out];rfl),HK.out⟩
   ·have hde:((d.toNat:Int)==116)=false:=(bQ d 116 (by omega)).trans (beq_eq_false_iff_ne.2 hd);have hde2:((116:Int)==(d.toNat:Int))=false:=by rw[beq_eq_false_iff_ne]at hde⊢;exact fun e=>hde e.symm
    have HN:=G (show fI d=eD (eE.drop 2) d by rw[HT.out];unfold eE;simp only[ab,ap,eD];rw[if_neg hd]);clear hd;go_wp2_with fail;refine am 6 1 [] mixed (by kernel_rfl) trivial ?_;repeat (refine sx ?_ (fun w1 hU=> ?_) ?_;rotate_left;(focus clear hU;go_simp<;>with_reducible rfl);simp only[bf,be,bc,a_,a8])
    intro w7 hw7 _;simp only[ab,aC];have HK:=G (HX.out.trans hw7.un);clear hw7;go_wp2_with fail;go_roundw
    case rel=>exact⟨.inr (.inr (.inl ⟨rfl,HN⟩)),HK⟩
    case measure=>simp[intOf]
  ·have k1: ∀h,(⟨#[110,116,48,92,39,34]⟩:ByteArray)[2]'h=48:=fun _=>rfl;have k2: ∀h,(⟨#[10,9,0,92,39,34]⟩:ByteArray)[2]'h=0:=fun _=>rfl;by_cases hd:d=48
   ·subst hd;have HR:=G (show bI (92::48::r)=(0,2)from rfl);clear HT HV;go_wp2_with fail;refine am 6 1 [] mixed (by kernel_rfl) trivial ?_;repeat (refine sx ?_ (fun w1 hU=> ?_) ?_;rotate_left;(focus clear hU;go_simp<;>with_reducible rfl);simp only[bf,be,bc,a_,a8])
    intro w7 hw7 _;simp only[ab,aC];have HK:=G (HX.out.trans hw7.un);clear hw7;go_wp2_with fail;go_ret2;exact⟨eB (by rw[HR.out];rfl) (by rw[HR.out];rfl),HK.out⟩
   ·have hde:((d.toNat:Int)==48)=false:=(bQ d 48 (by omega)).trans (beq_eq_false_iff_ne.2 hd);have hde2:((48:Int)==(d.toNat:Int))=false:=by rw[beq_eq_false_iff_ne]at hde⊢;exact fun e=>hde e.symm
    have HN:=G (show fI d=eD (eE.drop 3) d by rw[HT.out];unfold eE;simp only[ab,ap,eD];rw[if_neg hd]);clear hd;go_wp2_with fail;refine am 6 1 [] mixed (by kernel_rfl) trivial ?_;repeat (refine sx ?_ (fun w1 hU=> ?_) ?_;rotate_left;(focus clear hU;go_simp<;>with_reducible rfl);simp only[bf,be,bc,a_,a8])
    intro w7 hw7 _;simp only[ab,aC];have HK:=G (HX.out.trans hw7.un);clear hw7;go_wp2_with fail;go_roundw
    case rel=>exact⟨.inr (.inr (.inr (.inl ⟨rfl,HN⟩))),HK⟩
    case measure=>simp[intOf]
  ·have k1: ∀h,(⟨#[110,116,48,92,39,34]⟩:ByteArray)[3]'h=92:=fun _=>rfl;have k2: ∀h,(⟨#[10,9,0,92,39,34]⟩:ByteArray)[3]'h=92:=fun _=>rfl;by_cases hd:d=92
   ·subst hd;have HR:=G (show bI (92::92::r)=(92,2)from rfl);clear HT HV;go_wp2_with fail;refine am 6 1 [] mixed (by kernel_rfl) trivial ?_;repeat (refine sx ?_ (fun w1 hU=> ?_) ?_;rotate_left;(focus clear hU;go_simp<;>with_reducible rfl);simp only[bf,be,bc,a_,a8])
    intro w7 hw7 _;simp only[ab,aC];have HK:=G (HX.out.trans hw7.un);clear hw7;go_wp2_with fail;go_ret2;exact⟨eB (by rw[HR.out];rfl) (by rw[HR.out];rfl),HK.out⟩
   ·have hde:((d.toNat:Int)==92)=false:=(bQ d 92 (by omega)).trans (beq_eq_false_iff_ne.2 hd);have hde2:((92:Int)==(d.toNat:Int))=false:=by rw[beq_eq_false_iff_ne]at hde⊢;exact fun e=>hde e.symm
    have HN:=G (show fI d=eD (eE.drop 4) d by rw[HT.out];unfold eE;simp only[ab,ap,eD];rw[if_neg hd]);clear hd;go_wp2_with fail;refine am 6 1 [] mixed (by kernel_rfl) trivial ?_;repeat (refine sx ?_ (fun w1 hU=> ?_) ?_;rotate_left;(focus clear hU;go_simp<;>with_reducible rfl);simp only[bf,be,bc,a_,a8])
    intro w7 hw7 _;simp only[ab,aC];have HK:=G (HX.out.trans hw7.un);clear hw7;go_wp2_with fail;go_roundw
    case rel=>exact⟨.inr (.inr (.inr (.inr (.inl ⟨rfl,HN⟩)))),HK⟩
    case measure=>simp[intOf]
  ·have k1: ∀h,(⟨#[110,116,48,92,39,34]⟩:ByteArray)[4]'h=39:=fun _=>rfl;have k2: ∀h,(⟨#[10,9,0,92,39,34]⟩:ByteArray)[4]'h=39:=fun _=>rfl;by_cases hd:d=39
   ·subst hd;have HR:=G (show bI (92::39::r)=(39,2)from rfl);clear HT HV;go_wp2_with fail;refine am 6 1 [] mixed (by kernel_rfl) trivial ?_;repeat (refine sx ?_ (fun w1 hU=> ?_) ?_;rotate_left;(focus clear hU;go_simp<;>with_reducible rfl);simp only[bf,be,bc,a_,a8])
    intro w7 hw7 _;simp only[ab,aC];have HK:=G (HX.out.trans hw7.un);clear hw7;go_wp2_with fail;go_ret2;exact⟨eB (by rw[HR.out];rfl) (by rw[HR.out];rfl),HK.out⟩
   ·have hde:((d.toNat:Int)==39)=false:=(bQ d 39 (by omega)).trans (beq_eq_false_iff_ne.2 hd);have hde2:((39:Int)==(d.toNat:Int))=false:=by rw[beq_eq_false_iff_ne]at hde⊢;exact fun e=>hde e.symm
    have HN:=G (show fI d=eD (eE.drop 5) d by rw[HT.out];unfold eE;simp only[ab,ap,eD];rw[if_neg hd]);clear hd;go_wp2_with fail;refine am 6 1 [] mixed (by kernel_rfl) trivial ?_;repeat (refine sx ?_ (fun w1 hU=> ?_) ?_;rotate_left;(focus clear hU;go_simp<;>with_reducible rfl);simp only[bf,be,bc,a_,a8])
    intro w7 hw7 _;simp only[ab,aC];have HK:=G (HX.out.trans hw7.un);clear hw7;go_wp2_with fail;go_roundw
    case rel=>exact⟨.inr (.inr (.inr (.inr (.inr (.inl ⟨rfl,HN⟩))))),HK⟩
    case measure=>simp[intOf]
  ·have k1: ∀h,(⟨#[110,116,48,92,39,34]⟩:ByteArray)[5]'h=34:=fun _=>rfl;have k2: ∀h,(⟨#[10,9,0,92,39,34]⟩:ByteArray)[5]'h=34:=fun _=>rfl;by_cases hd:d=34
   ·subst hd;have HR:=G (show bI (92::34::r)=(34,2)from rfl);clear HT HV;go_wp2_with fail;refine am 6 1 [] mixed (by kernel_rfl) trivial ?_;repeat (refine sx ?_ (fun w1 hU=> ?_) ?_;rotate_left;(focus clear hU;go_simp<;>with_reducible rfl);simp only[bf,be,bc,a_,a8])
    intro w7 hw7 _;simp only[ab,aC];have HK:=G (HX.out.trans hw7.un);clear hw7;go_wp2_with fail;go_ret2;exact⟨eB (by rw[HR.out];rfl) (by rw[HR.out];rfl),HK.out⟩
   ·have hde:((d.toNat:Int)==34)=false:=(bQ d 34 (by omega)).trans (beq_eq_false_iff_ne.2 hd);have hde2:((34:Int)==(d.toNat:Int))=false:=by rw[beq_eq_false_iff_ne]at hde⊢;exact fun e=>hde e.symm
    have HN:=G (show fI d=eD (eE.drop 6) d by rw[HT.out];unfold eE;simp only[ab,ap,eD];rw[if_neg hd]);clear hd;go_wp2_with fail;refine am 6 1 [] mixed (by kernel_rfl) trivial ?_;repeat (refine sx ?_ (fun w1 hU=> ?_) ?_;rotate_left;(focus clear hU;go_simp<;>with_reducible rfl);simp only[bf,be,bc,a_,a8])
    intro w7 hw7 _;simp only[ab,aC];have HK:=G (HX.out.trans hw7.un);clear hw7;go_wp2_with fail;go_roundw
    case rel=>exact⟨.inr (.inr (.inr (.inr (.inr (.inr (⟨rfl,HN⟩)))))),HK⟩
    case measure=>simp[intOf]
  ·have HR:=G (show bI (92::d::r)=(0,0) by have h:fI d=none:=HT.out;simp[bI,h]);clear HT HV;go_wp2_with fail;go_ret2;exact⟨eB (by rw[HR.out];rfl) (by rw[HR.out];rfl),HX.out⟩
theorem nW (l:List UInt8) (w:World) (hl:l.length<=100000):
  Calls prog 103 #[.string (ae l)] w fun e w'=>e= .returned (.tuple #[.int .u8 ((bI l).1.toNat:Int), .int .i64 ((bI l).2:Int)])/\al w w':=by
 match l with
 | []=>
  go_enter func103,ntmps103;go_wp2_with fail;go_ret2;exact⟨rfl,aG w⟩
 |c::r=>
  have hsz:(ae (c::r)).size=r.length+1:=by rw[aM];rfl
  have h0:(0:Nat)<(ae (c::r)).size:=by rw[hsz];omega
  have g0:(ae (c::r))[0]=c:=rfl;by_cases h1:c.toNat<32
  ·have HR:=G (show bI (c::r)=(0,0) by simp[bI,h1]);have h1':(c.toNat:Int)<32:=by omega
   go_enter func103,ntmps103;go_wp2_with fail;go_ret2;exact⟨eB (by rw[HR.out];rfl) (by rw[HR.out];rfl),aG w⟩
  by_cases h2:126<c.toNat
  ·have HR:=G (show bI (c::r)=(0,0) by simp[bI,h2]);have h1': ¬(c.toNat:Int)<32:=by omega
   have h2':(126:Int)<c.toNat:=by omega
   go_enter func103,ntmps103;go_wp2_with fail;go_ret2;exact⟨eB (by rw[HR.out];rfl) (by rw[HR.out];rfl),aG w⟩
  have h1':decide ((c.toNat:Int)<32)=false:=by simp;omega
  have h2':decide ((126:Int)<c.toNat)=false:=by simp;omega
  by_cases h3:c=92
  ·subst h3
   match r with
   | []=>
    clear h1' h2';go_enter func103,ntmps103;go_wp2_with fail
    go_loopw [6] (fun vi wr=>vi= .int .i64 0/\wr=w) (fun vi _=>0)
    case atStart=>exact⟨rfl,rfl⟩
    case round=>
     obtain⟨rfl,rfl⟩:=hrel;go_wp2_with fail;go_ret2;exact⟨rfl,aG _⟩
   |d::r'=>exact sT d r' w (by simp at hl;omega)
  ·have HR:=G (show bI (c::r)=(c,1) by simp only[bI];rw[if_neg (by omega),if_pos h3]);have h3':((c.toNat:Int) !=92)=true:=by
    have h4:((c.toNat:Int)==92)=false:=(bQ c 92 (by omega)).trans (beq_eq_false_iff_ne.2 h3);rw[bne,h4];rfl
   have h5: ¬(c.toNat:Int)<32:=by omega
   have h6: ¬(126:Int)<c.toNat:=by omega
   clear h3;go_enter func103,ntmps103;go_wp2_with fail;go_ret2;exact⟨eB (by rw[HR.out]) (by rw[HR.out];rfl),aG w⟩
end
end Go.Proofs.YtelplgkppalmfaaGreatDoor
