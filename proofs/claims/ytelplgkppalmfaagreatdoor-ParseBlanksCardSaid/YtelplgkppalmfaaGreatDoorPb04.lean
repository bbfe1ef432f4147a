/-
  Parts of the proof: OpenC LexP LexA LexB LexC.
-/
import Derived.Deep.Fields
import Derived.ChangeSame
import Derived.Deep.Slices
import Derived.Test.YtelplgkppalmfaaGreatDoorPb03
import Derived.Test.YtelplgkppalmfaaGreatDoorProg
import Derived.WalkKit
import Derived.Test.YtelplgkppalmfaaGreatDoorPb01
set_option maxRecDepth 100000
set_option maxHeartbeats 8000000
set_option linter.unusedVariables false
set_option linter.unusedSimpArgs false
namespace Go.Proofs.YtelplgkppalmfaaGreatDoor
open Go.Proofs.Tryz
open Go.Joins Go.ChangeShapes Go.WideShapes Go.ChangeAt Go.RowKit Go.Deep
section
variable {H:Type} {enc:TypeId×Value->H} {P:Program} {W:World}
end
end Go.Proofs.YtelplgkppalmfaaGreatDoor
namespace Go.Proofs.YtelplgkppalmfaaGreatDoor
open Go.Proofs.Tryz
def letB (c:UInt8):Bool:=decide (97<=(c|||32).toNat/\(c|||32).toNat<=122)
def digB (c:UInt8):Bool:=decide (48<=c.toNat/\c.toNat<=57)
def prtB (c:UInt8):Bool:=letB c||digB c||c==95
def wsB (c:UInt8):Bool:=c==32||c==9||c==10||c==13
theorem letB_iff (c:UInt8):letB c=(decide (97<=c.toNat/\c.toNat<=122)||decide (65<=c.toNat/\c.toNat<=90)):=by
 have: ∀n:Fin 256,letB (UInt8.ofNat n.val)=(decide (97<=(UInt8.ofNat n.val).toNat/\(UInt8.ofNat n.val).toNat<=122)||decide (65<=(UInt8.ofNat n.val).toNat/\(UInt8.ofNat n.val).toNat<=90)):=by decide+kernel
 have h:=this ⟨c.toNat,c.toNat_lt⟩;rwa [UInt8.ofNat_toNat]at h
def kws:List (List UInt8):=[[118,97,114],[102,117,110,99],[105,102],[101,108,115,101],[119,104,105,108,101],[114,101,116,117,114,110]]
def kwB (l:List UInt8):Bool:=kws.contains l
def spanN (p:UInt8->Bool):List UInt8->Nat
 | []=>0
 |c::l=>if p c then spanN p l+1 else 0
theorem spanN_le (p:UInt8->Bool): ∀l,spanN p l<=l.length
 | []=>Nat.le_refl _
 |c::l=>by
  simp only[spanN];split
  ·have:=spanN_le p l;simp;omega
  ·simp
theorem spanN_drop (p:UInt8->Bool): ∀(l:List UInt8) (j:Nat),j<=spanN p l->spanN p l=j+spanN p (l.drop j)
 |l,0,_=>by simp
 | [],j+1,h=>by simp[spanN]at h
 |c::l,j+1,h=>by
  simp only[spanN]at h⊢;split at h
  ·rename_i hc;rw[if_pos hc,List.drop_succ_cons,spanN_drop p l j (by omega)];omega
  ·omega
theorem spanN_step (p:UInt8->Bool) {l:List UInt8} {j:Nat} (h:j<l.length):spanN p (l.drop j)=if p l[j]then spanN p (l.drop (j+1))+1 else 0:=by
 rw[List.drop_eq_getElem_cons h];rfl
def skipC:Bool->List UInt8->Nat
 | _,[]=>0
 |false,c::l=>if wsB c then skipC false l+1 else if c=47/\l.head? =some 47 then skipC true l+1 else 0
 |true,c::l=>if c=10 then skipC false l+1 else skipC true l+1
theorem skipC_le: ∀(b:Bool) (l:List UInt8),skipC b l<=l.length
 |b,[]=>by cases b<;>simp[skipC]
 |false,c::l=>by
  simp only[skipC];split
  ·have:=skipC_le false l;simp;omega
  ·split
   ·have:=skipC_le true l;simp;omega
   ·simp
 |true,c::l=>by
  simp only[skipC];split
  ·have:=skipC_le false l;simp;omega
  ·have:=skipC_le true l;simp;omega
def lineN:List UInt8->Nat:=spanN (fun c=>c !=10)
theorem skipC_line: ∀l,skipC true l=lineN l+skipC false (l.drop (lineN l))
 | []=>rfl
 |c::l=>by
  simp only[skipC,lineN,spanN];by_cases hc:c=10
  ·subst hc;have hb:((10:UInt8) !=10)=false:=by decide
   have hw:wsB 10=true:=by decide
   rw[if_pos rfl,if_neg (by rw[hb];simp)];simp[skipC,hw]
  ·have hb:(c !=10)=true:=by simp[hc]
   rw[if_neg hc,if_pos hb,skipC_line l,List.drop_succ_cons];simp only[lineN];omega
theorem skipC_comment {l:List UInt8} (h: ∃r,l=47::47::r):skipC false l=lineN l+skipC false (l.drop (lineN l)):=by
 obtain⟨r,rfl⟩:=h;rw[<-skipC_line];have h1:wsB 47=false:=by decide
 have h2: ¬(47:UInt8)=10:=by decide
 simp[skipC,h1,h2]
def escV (c:UInt8):Option UInt8:=if c=110 then some 10 else if c=116 then some 9 else if c=48 then some 0 else if c=92 then some 92 else if c=39 then some 39 else if c=34 then some 34 else none
def elemL:List UInt8->UInt8×Nat
 | []=>(0,0)
 |c::r=>if c.toNat<32\/126<c.toNat then(0,0)else if c≠92 then(c,1)else match r with
  | []=>(0,0)
  |d::_=>match escV d with
   |some v=>(v,2)
   |none=>(0,0)
theorem elemL_le (l:List UInt8):(elemL l).2<=l.length/\(elemL l).2<=2:=by
 match l with
 | []=>exact⟨Nat.le_refl _,by decide⟩
 | [c]=>
  simp only[elemL];split
  ·exact⟨by simp,by simp⟩
  ·split
   ·exact⟨by simp,by simp⟩
   ·exact⟨by simp,by simp⟩
 |c::d::r=>
  simp only[elemL];split
  ·exact⟨by simp,by simp⟩
  ·split
   ·exact⟨by simp,by simp⟩
   ·split<;>exact⟨by simp,by simp⟩
def litF:Nat->List UInt8->Option (List UInt8×Nat)
 |0,_=>none
 |f+1,m=>match m with
  | []=>none
  |c::r=>if c=34 then some ([],1)else if(elemL (c::r)).2=0 then none else(litF f ((c::r).drop (elemL (c::r)).2)).map fun x=>((elemL (c::r)).1::x.1,(elemL (c::r)).2+x.2)
theorem litF_more: ∀(f g:Nat) (m:List UInt8),m.length<=f->f<=g->litF g m=litF f m
 |0,g,m,h,_=>by
  have:m=[]:=List.eq_nil_of_length_eq_zero (by omega);subst this
  cases g<;>rfl
 |f+1,0,m,h,hg=>by omega
 |f+1,g+1,m,h,hg=>by
  cases m with
  |nil=>rfl
  |cons c r=>
   simp only[litF];split
   ·rfl
   ·split
    ·rfl
    ·rename_i h0;rw[litF_more f g _ (by have:=elemL_le (c::r);simp only[List.length_drop,List.length_cons]at h⊢;omega) (by omega)]
def litL (m:List UInt8):Option (List UInt8×Nat):=litF m.length m
theorem litL_end (r:List UInt8):litL (34::r)=some ([],1):=by simp[litL,litF]
theorem litL_bad {c:UInt8} {r:List UInt8} (h:c≠34) (h0:(elemL (c::r)).2=0):litL (c::r)=none:=by
 simp only[litL,List.length_cons,litF];rw[if_neg h,if_pos h0]
theorem litL_step {c:UInt8} {r:List UInt8} (h:c≠34) (h0:(elemL (c::r)).2≠0):litL (c::r)=(litL ((c::r).drop (elemL (c::r)).2)).map fun x=>((elemL (c::r)).1::x.1,(elemL (c::r)).2+x.2):=by
 have hl:=elemL_le (c::r);simp only[litL,List.length_cons,litF];rw[if_neg h,if_neg h0,litF_more _ r.length _ (Nat.le_refl _) (by simp only[List.length_drop,List.length_cons];omega)]
def decV (l:List UInt8):Nat:=l.foldl (fun v c=>v*10+(c.toNat-48)) 0
abbrev TokR:=Except Int ((Int×List UInt8×Int)×Nat)
def wordT (l:List UInt8):TokR:=if kwB (l.take (spanN prtB l))then .ok ((2,l.take (spanN prtB l),0),spanN prtB l)else if 14<spanN prtB l then .error 6 else .ok ((1,l.take (spanN prtB l),0),spanN prtB l)
def numT (l:List UInt8):TokR:=
 if(l.drop (spanN digB l)).head?.any prtB then .error 3
 else if 10<spanN digB l\/(1<spanN digB l/\l.head? =some 48)\/2147483647<decV (l.take (spanN digB l))then .error 2
 else .ok ((3,[],decV (l.take (spanN digB l))),spanN digB l)
def charT (l:List UInt8):TokR:=
 if(elemL (l.drop 1)).2=0\/(l.drop 1).head? =some 39\/(l.drop ((elemL (l.drop 1)).2+1)).head? ≠some 39 then .error 3 else .ok ((3,[],((elemL (l.drop 1)).1.toNat:Int)),(elemL (l.drop 1)).2+2)
def textT (l:List UInt8):TokR:=match litL (l.drop 1)with
 |none=> .error 3
 |some (t,n)=>if 128<t.length then .error 6 else .ok ((4,t,0),n+1)
def two:List (List UInt8):=[[61,61],[33,61],[60,61],[62,61],[38,38],[124,124]]
def ones:List UInt8:=[40,41,123,125,91,93,44,59,61,43,45,42,47,37,60,62,33]
def markT (l:List UInt8):TokR:=if two.contains (l.take 2)then .ok ((5,l.take 2,0),2)else if(l.head?.any fun c=>ones.contains c)then .ok ((5,l.take 1,0),1)else .error 3
def tokT (l:List UInt8):TokR:=match l with
 | []=> .error 3
 |c::r=>if letB c then wordT (c::r)else if digB c then numT (c::r)else if c=39 then charT (c::r)else if c=34 then textT (c::r)else markT (c::r)
structure Tok where
 k:Int
 t:List UInt8
 v:Int
 f:Int
deriving DecidableEq
def toksF:Nat->List UInt8->Nat->Except (Nat×Int) (List Tok)
 |0,_,_=> .ok []
 |f+1,m,at_=>
  match m.drop (skipC false m)with
  | []=> .ok []
  |c::r=>match tokT (c::r)with
   | .error e=> .error (at_+skipC false m,e)
   | .ok ((k,t,v),n)=>match toksF f ((c::r).drop n) (at_+skipC false m+n)with
    | .error e=> .error e
    | .ok ts=> .ok (⟨k,t,v,(at_+skipC false m:Nat)⟩::ts)
def toks (l:List UInt8):Except (Nat×Int) (List Tok):=toksF (l.length+1) l 0
def toksR (l:List UInt8):List Tok×Int×Int:=if 4000<l.length then([],4000,6)else match toks l with
 | .ok ts=>(ts,0,0)
 | .error (p,e)=>([],p,e)
end Go.Proofs.YtelplgkppalmfaaGreatDoor
namespace Go.Proofs.YtelplgkppalmfaaGreatDoor
open Go.Proofs.Tryz
open Go.RowKit
theorem mixed:prog.follows .mixedOrders=true:=by kernel_rfl
theorem ret_bool {a b:Bool} (h:a=b):Ending.returned (.bool a)= .returned (.bool b):=by rw[h]
theorem ret_int {k:IntKind} {a b:Int} (h:a=b):Ending.returned (.int k a)= .returned (.int k b):=by rw[h]
theorem u8_or (x y:UInt8):bits .or .u8 (x.toNat:Int) (y.toNat:Int)=((x|||y).toNat:Int):=by
 show IntKind.u8.wrap ((BitVec.ofInt 8 (x.toNat:Int)|||BitVec.ofInt 8 (y.toNat:Int)).toNat:Int)=_;have e: ∀z:UInt8,BitVec.ofInt 8 (z.toNat:Int)=z.toBitVec:=fun z=>by
  rw[BitVec.ofInt_natCast];exact BitVec.eq_of_toNat_eq (by simp)
 rw[e,e,<-UInt8.toBitVec_or];generalize x|||y=z;have hz:=z.toNat_lt;show IntKind.u8.wrap (z.toNat:Int)=(z.toNat:Int);simp only[IntKind.wrap,IntKind.signed,IntKind.bits];simp;omega
theorem letter_any (c:UInt8) (w:World):Calls prog 75 #[.int .u8 (c.toNat:Int)] w fun e w'=>e= .returned (.bool (letB c))/\w=w':=by
 have h:=u8_or c 32;have e:((32:UInt8).toNat:Int)=32:=rfl;rw[e]at h;have HB:=hide (show letB c=decide (97<=(c|||32).toNat/\(c|||32).toNat<=122)from rfl);generalize (c|||32)=q at*;clear e;by_cases h1:97<=q.toNat
 ·by_cases h2:q.toNat<=122
  ·have HC:=hide (show letB c=true by rw[HB.out];simp[h1,h2]);have h1':(97:Int)<=q.toNat:=by omega
   have h2':(q.toNat:Int)<=122:=by omega
   go_enter func75,ntmps75;go_wp2;go_ret;exact⟨ret_bool HC.out.symm,rfl⟩
  ·have HC:=hide (show letB c=false by rw[HB.out];simp[h1,h2]);have h1':(97:Int)<=q.toNat:=by omega
   have h2': ¬(q.toNat:Int)<=122:=by omega
   go_enter func75,ntmps75;go_wp2;go_ret;exact⟨ret_bool HC.out.symm,rfl⟩
 ·have HC:=hide (show letB c=false by rw[HB.out];simp[h1]);have h1': ¬(97:Int)<=q.toNat:=by omega
  go_enter func75,ntmps75;go_wp2;go_ret;exact⟨ret_bool HC.out.symm,rfl⟩
theorem digit_any (c:UInt8) (w:World):Calls prog 110 #[.int .u8 (c.toNat:Int)] w fun e w'=>e= .returned (.bool (digB c))/\w=w':=by
 have HB:=hide (show digB c=decide (48<=c.toNat/\c.toNat<=57)from rfl);by_cases h1:48<=c.toNat
 ·by_cases h2:c.toNat<=57
  ·have HC:=hide (show digB c=true by rw[HB.out];simp[h1,h2]);have h1':(48:Int)<=c.toNat:=by omega
   have h2':(c.toNat:Int)<=57:=by omega
   go_enter func110,ntmps110;go_wp2;go_ret;exact⟨ret_bool HC.out.symm,rfl⟩
  ·have HC:=hide (show digB c=false by rw[HB.out];simp[h1,h2]);have h1':(48:Int)<=c.toNat:=by omega
   have h2': ¬(c.toNat:Int)<=57:=by omega
   go_enter func110,ntmps110;go_wp2;go_ret;exact⟨ret_bool HC.out.symm,rfl⟩
 ·have HC:=hide (show digB c=false by rw[HB.out];simp[h1]);have h1': ¬(48:Int)<=c.toNat:=by omega
  go_enter func110,ntmps110;go_wp2;go_ret;exact⟨ret_bool HC.out.symm,rfl⟩
theorem u8_eqI (a:UInt8) (n:Nat) (hn:n<256):((a.toNat:Int)==(n:Int))=(a==UInt8.ofNat n):=by
 by_cases h:a=UInt8.ofNat n
 ·subst h;have:(UInt8.ofNat n).toNat=n:=by rw[UInt8.toNat_ofNat'];omega
  rw[this];simp
 ·have h2:(a.toNat:Int)≠(n:Int):=fun e=>h (UInt8.toNat_inj.1 (by rw[UInt8.toNat_ofNat'];omega));rw[beq_eq_false_iff_ne.2 h,beq_eq_false_iff_ne.2 h2]
theorem part_any (c:UInt8) (w:World):Calls prog 74 #[.int .u8 (c.toNat:Int)] w fun e w'=>e= .returned (.bool (prtB c))/\w=w':=by
 have h95:((c.toNat:Int)==95)=(c==95):=u8_eqI c 95 (by omega);have HL:=hide (letter_any c w);have HD:=hide (digit_any c w);have HB:=hide (show prtB c=(letB c||digB c||c==95)from rfl);generalize letB c=l at*;generalize digB c=d at*;generalize (c==95)=u at*
 cases l<;>cases d<;>cases u;all_goals
  go_enter func74,ntmps74
  go_wp2_with (first
   |(go_at_call 75;refine HL.out.mono ?_;rintro e w' ⟨rfl,rfl⟩)
   |(go_at_call 110;refine HD.out.mono ?_;rintro e w' ⟨rfl,rfl⟩))
  go_ret;exact⟨ret_bool (by rw[HB.out];rfl),rfl⟩
theorem rletter_any (c:UInt8) (w:World):Calls prog 93 #[.int .u8 (c.toNat:Int)] w fun e w'=>e= .returned (.bool (letB c))/\w=w':=by
 have HB:=hide (letB_iff c);have hw:c.toNat<65\/(65<=c.toNat/\c.toNat<=90)\/(90<c.toNat/\c.toNat<97)\/(97<=c.toNat/\c.toNat<=122)\/122<c.toNat:=by omega
 generalize hn:c.toNat=n at*;have HN:=hide hn;clear hn;rcases hw with h|⟨h1,h2⟩|⟨h1,h2⟩|⟨h1,h2⟩|h
 ·have HC:=hide (show letB c=false by rw[HB.out];simp;omega);have h':(n:Int)<65:=by omega
  go_enter func93,ntmps93;go_wp2;go_ret;exact⟨ret_bool HC.out.symm,rfl⟩
 ·have HC:=hide (show letB c=true by rw[HB.out];simp;omega);have h1':(65:Int)<=n:=by omega
  have h2':(n:Int)<=90:=by omega
  go_enter func93,ntmps93;go_wp2;go_ret;exact⟨ret_bool HC.out.symm,rfl⟩
 ·have HC:=hide (show letB c=false by rw[HB.out];simp;omega);have h1':decide ((n:Int)<=90)=false:=by simp;omega
  have h2':decide ((97:Int)<=n)=false:=by simp;omega
  have h3':(65:Int)<=n:=by omega
  have h4': ¬(97:Int)<=n:=by omega
  go_enter func93,ntmps93;go_wp2;go_ret;exact⟨ret_bool HC.out.symm,rfl⟩
 ·have HC:=hide (show letB c=true by rw[HB.out];simp;omega);have h1':(97:Int)<=n:=by omega
  have h2':(n:Int)<=122:=by omega
  go_enter func93,ntmps93;go_wp2;go_ret;exact⟨ret_bool HC.out.symm,rfl⟩
 ·have HC:=hide (show letB c=false by rw[HB.out];simp;omega);have h1':decide ((n:Int)<=90)=false:=by simp;omega
  have h2':decide ((n:Int)<=122)=false:=by simp;omega
  have h3':(97:Int)<=n:=by omega
  have h4':(65:Int)<=n:=by omega
  go_enter func93,ntmps93;go_wp2;go_ret;exact⟨ret_bool HC.out.symm,rfl⟩
theorem rdigit_any (c:UInt8) (w:World):Calls prog 101 #[.int .u8 (c.toNat:Int)] w fun e w'=>e= .returned (.bool (digB c))/\w=w':=by
 have HB:=hide (show digB c=decide (48<=c.toNat/\c.toNat<=57)from rfl);by_cases h1:48<=c.toNat
 ·by_cases h2:c.toNat<=57
  ·have HC:=hide (show digB c=true by rw[HB.out];simp[h1,h2]);have h1':(48:Int)<=c.toNat:=by omega
   have h2':(c.toNat:Int)<=57:=by omega
   go_enter func101,ntmps101;go_wp2;go_ret;exact⟨ret_bool HC.out.symm,rfl⟩
  ·have HC:=hide (show digB c=false by rw[HB.out];simp[h1,h2]);have h1':(48:Int)<=c.toNat:=by omega
   have h2': ¬(c.toNat:Int)<=57:=by omega
   go_enter func101,ntmps101;go_wp2;go_ret;exact⟨ret_bool HC.out.symm,rfl⟩
 ·have HC:=hide (show digB c=false by rw[HB.out];simp[h1]);have h1': ¬(48:Int)<=c.toNat:=by omega
  go_enter func101,ntmps101;go_wp2;go_ret;exact⟨ret_bool HC.out.symm,rfl⟩
theorem inner_any (c:UInt8) (w:World):Calls prog 95 #[.int .u8 (c.toNat:Int)] w fun e w'=>e= .returned (.bool (prtB c))/\w=w':=by
 have h95:((c.toNat:Int)==95)=(c==95):=u8_eqI c 95 (by omega);have HL:=hide (rletter_any c w);have HD:=hide (rdigit_any c w);have HB:=hide (show prtB c=(letB c||digB c||c==95)from rfl);generalize letB c=l at*;generalize digB c=d at*;generalize (c==95)=u at*
 cases l<;>cases d<;>cases u;all_goals
  go_enter func95,ntmps95
  go_wp2_with (first
   |(go_at_call 93;refine HL.out.mono ?_;rintro e w' ⟨rfl,rfl⟩)
   |(go_at_call 101;refine HD.out.mono ?_;rintro e w' ⟨rfl,rfl⟩))
  go_ret;exact⟨ret_bool (by rw[HB.out];rfl),rfl⟩
theorem str_size (l:List UInt8):(str l).size=l.length:=by
 show l.toArray.size=l.length;simp
theorem str_get (l:List UInt8) (j:Nat) (h:j<(str l).size):(str l)[j]=l[j]'(by rw[<-str_size];exact h):=rfl
theorem str_extract (l:List UInt8) (a b:Nat):(str l).extract a b=str ((l.take b).drop a):=by
 apply ByteArray.ext;rw[ByteArray.data_extract];apply Array.ext';show(l.toArray.extract a b).toList=((l.take b).drop a);rw[Array.toList_extract,List.drop_take]
theorem span_any (p:UInt8->Bool) (fn:Nat) (hfn: ∀(c:UInt8) (w:World),Calls prog fn #[.int .u8 (c.toNat:Int)] w fun e w'=>e= .returned (.bool (p c))/\w=w') (hf:fn=74\/fn=110) (l:List UInt8) (hl:l.length<=100000) (w:World):
  Calls prog 137 #[.string (str l), .func (.func fn) #[] #[]] w fun e w'=>e= .returned (.int .i64 (spanN p l))/\w=w':=by
 have HF:=hide hfn;have hsz:=str_size l;have hm:=spanN_le p l;clear hfn;rcases hf with rfl|rfl;all_goals
  go_enter func137,ntmps137;go_wp2_with fail
  go_loop [5] (fun vi=> ∃j:Nat,vi= .int .i64 j/\j<=spanN p l) (fun vi=>l.length-(intOf vi).toNat)
  case atStart=>exact⟨0,rfl,Nat.zero_le _⟩
  case round=>
   obtain⟨j,rfl,hj⟩:=hrel;by_cases hlt:j<l.length
   ·have hjs:j<(str l).size:=by rw[str_size];exact hlt
    have hg:=str_get l j hjs;have hst:=spanN_step p hlt;have hdr:=spanN_drop p l j hj;have HCC:=hide (HF.out l[j] w);have hlt':(j:Int)<l.length:=by omega
    generalize l[j]'hlt=c at*
    cases hp:p c with
    |true=>
     rw[hp,if_pos rfl]at hst;have HJ:=hide (show j+1<=spanN p l by omega);rw[hp]at HCC;clear hst hdr hp;go_wp2_with (refine HCC.out.mono ?_;rintro e w' ⟨rfl,rfl⟩)
     go_round
     case rel=>exact⟨j+1,by go_num,HJ.out⟩
     case measure=>simp[intOf];omega
    |false=>
     rw[hp,if_neg (by simp)]at hst;have HJ:=hide (show spanN p l=j by omega);rw[hp]at HCC;clear hst hdr hp;go_wp2_with (refine HCC.out.mono ?_;rintro e w' ⟨rfl,rfl⟩);go_ret;exact⟨ret_int (by rw[HJ.out]),rfl⟩
   ·have HJ:=hide (show spanN p l=j by omega);have hlt': ¬(j:Int)<l.length:=by omega
    go_wp2_with fail;go_ret;exact⟨ret_int (by rw[HJ.out]),rfl⟩
end Go.Proofs.YtelplgkppalmfaaGreatDoor
namespace Go.Proofs.YtelplgkppalmfaaGreatDoor
open Go.Proofs.Tryz
open Go.RowKit
theorem kw_ways (l:List UInt8):(kwB l=true/\(l=[118,97,114]\/l=[102,117,110,99]\/l=[105,102]\/l=[101,108,115,101]\/l=[119,104,105,108,101]\/l=[114,101,116,117,114,110]))\/
  (kwB l=false/\(l==[118,97,114])=false/\(l==[102,117,110,99])=false/\(l==[105,102])=false/\(l==[101,108,115,101])=false/\(l==[119,104,105,108,101])=false/\(l==[114,101,116,117,114,110])=false):=by
 cases h:kwB l with
 |true=>
  refine .inl ⟨rfl,?_⟩;unfold kwB kws at h;simpa using h
 |false=>
  refine .inr ⟨rfl,?_⟩;unfold kwB kws at h;simp only[List.contains_cons,Bool.or_eq_false_iff]at h;exact⟨h.1,h.2.1,h.2.2.1,h.2.2.2.1,h.2.2.2.2.1,h.2.2.2.2.2.1⟩
theorem keyword_any (l:List UInt8) (w:World):Calls prog 76 #[.string (str l)] w fun e w'=>e= .returned (.bool (kwB l))/\w=w':=by
 rcases kw_ways l with⟨h,rfl|rfl|rfl|rfl|rfl|rfl⟩|⟨h,h1,h2,h3,h4,h5,h6⟩
 all_goals
  have HK:=hide h;clear h;go_enter func76,ntmps76;go_wp2_with fail;go_ret;exact⟨ret_bool HK.out.symm,rfl⟩
def inB (ls:List (List UInt8)) (l:List UInt8):Bool:=ls.contains l
structure Ss (w:World) (A:Option Addr) (cap:Nat) (ls:List (List UInt8)):Prop where
 le:ls.length<=cap
 rd:ls=[]\/ ∃b off,A=some ⟨b,off,none⟩/\b<w.heap.size/\ ∀i,(h:i<ls.length)->w.cell? ⟨b,off+i,none⟩=some (.string (str ls[i]))
theorem in_any (A:Option Addr) (cap:Nat) (ls:List (List UInt8)) (l:List UInt8) (w:World) (hs:Ss w A cap ls) (hl:ls.length<=1000):
  Calls prog 105 #[.slice A ls.length cap, .string (str l)] w fun e w'=>e= .returned (.bool (inB ls l))/\w=w':=by
 have HS:=hide hs;clear hs;go_enter func105,ntmps105;go_wp2_with fail
 go_loop [5] (fun vi=> ∃j:Nat,vi= .int .i64 j/\j<=ls.length/\Hid (inB ls l=inB (ls.drop j) l)) (fun vi=>ls.length-(intOf vi).toNat)
 case atStart=>exact⟨0,rfl,Nat.zero_le _,hide rfl⟩
 case round=>
  obtain⟨j,rfl,hj,HT⟩:=hrel;by_cases hlt:j<ls.length
  ·rcases HS.out.rd with h0|⟨b,off,rfl,hb,hc⟩
   ·rw[h0]at hlt;simp at hlt
   ·have hcj:=hc j hlt;have HD:=hide (show inB (ls.drop j) l=(l==ls[j]||inB (ls.drop (j+1)) l) by unfold inB;rw[List.drop_eq_getElem_cons hlt,List.contains_cons]);generalize ls[j]'hlt=k at*;clear hc;have hlt':(j:Int)<ls.length:=by omega
    cases hk:(l==k)with
    |true=>
     have HE:=hide (show inB ls l=true by rw[HT.out,HD.out,hk];rfl);have hk2:(k==l)=true:=by have:=beq_iff_eq.1 hk;subst this;simp
     clear hk;go_wp2_with fail;go_ret;exact⟨ret_bool HE.out.symm,rfl⟩
    |false=>
     have HE:=hide (show inB ls l=inB (ls.drop (j+1)) l by rw[HT.out,HD.out,hk];rfl);have hk2:(k==l)=false:=by rw[beq_eq_false_iff_ne]at hk⊢;exact fun e=>hk e.symm
     clear hk;go_wp2_with fail
     go_round
     case rel=>exact⟨j+1,by go_num,by omega,HE⟩
     case measure=>simp[intOf];omega
  ·have hlt': ¬(j:Int)<ls.length:=by omega
   have HE:=hide (show inB ls l=false by rw[HT.out,List.drop_of_length_le (by omega)];rfl);go_wp2_with fail;go_ret;exact⟨ret_bool HE.out.symm,rfl⟩
theorem rkeyword_any (l:List UInt8) (w:World):Calls prog 94 #[.string (str l)] w fun e w'=>e= .returned (.bool (kwB l))/\Ext w w':=by
 have hb: ∀cs:Array Value,Blk (w.alloc (.cells cs 9)) w.heap.size 9 cs:=fun cs=>Blk.new w 9 cs
 have HS:=hide (show Ss (w.alloc (.cells #[.string (str [118,97,114]), .string (str [102,117,110,99]), .string (str [105,102]), .string (str [101,108,115,101]), .string (str [119,104,105,108,101]), .string (str [114,101,116,117,114,110])] 9)) (some ⟨w.heap.size,0,none⟩) 6 kws from
  ⟨by decide, .inr ⟨w.heap.size,0,rfl,by simp,fun i hi=>by
   rw[Nat.zero_add,(hb _).cell];have hi:i<6:=hi;have hc:i=0\/i=1\/i=2\/i=3\/i=4\/i=5:=by omega
   rcases hc with rfl|rfl|rfl|rfl|rfl|rfl<;>rfl⟩⟩)
 have HK:=hide (show kwB l=inB kws l from rfl);clear hb;go_enter func94,ntmps94;go_wp2_with fail;refine(in_any _ 6 kws l _ HS.out (by decide)).mono ?_;rintro e w' ⟨rfl,rfl⟩;go_wp2_with fail;go_ret;exact⟨ret_bool HK.out.symm,Ext.alloc w _⟩
end Go.Proofs.YtelplgkppalmfaaGreatDoor
namespace Go.Proofs.YtelplgkppalmfaaGreatDoor
open Go.Proofs.Tryz
open Go.RowKit
def escL:List (UInt8×UInt8):=[(110,10),(116,9),(48,0),(92,92),(39,39),(34,34)]
def escF:List (UInt8×UInt8)->UInt8->Option UInt8
 | [],_=>none
 |x::l,d=>if d=x.1 then some x.2 else escF l d
theorem escV_eq (d:UInt8):escV d=escF escL d:=by unfold escV escL;simp only[escF]
theorem ret_el {a b:Int} {c d:Int} (h:a=b) (h2:c=d):Ending.returned (.tuple #[.int .u8 a, .int .i64 c])= .returned (.tuple #[.int .u8 b, .int .i64 d]):=by rw[h,h2]
theorem elem_esc (d:UInt8) (r:List UInt8) (w:World) (hl:r.length<=100000):
  Calls prog 139 #[.string (str (92::d::r))] w fun e w'=>e= .returned (.tuple #[.int .u8 ((elemL (92::d::r)).1.toNat:Int), .int .i64 ((elemL (92::d::r)).2:Int)])/\Ext w w':=by
 have hsz:(str (92::d::r)).size=r.length+2:=by rw[str_size];rfl
 have h0:(0:Nat)<(str (92::d::r)).size:=by rw[hsz];omega
 have h1:(1:Nat)<(str (92::d::r)).size:=by rw[hsz];omega
 have g0:(str (92::d::r))[0]=92:=rfl;have g1:(str (92::d::r))[1]=d:=rfl;have hlp:(1:Int)<(r.length:Int)+2:=by omega
 have HV:=hide (escV_eq d);go_enter func139,ntmps139;go_wp2_with fail
 go_loopw [4] (fun vi wr=>((vi= .int .i64 1/\Hid (escV d=escF (escL.drop 0) d))\/(vi= .int .i64 3/\Hid (escV d=escF (escL.drop 1) d))\/(vi= .int .i64 5/\Hid (escV d=escF (escL.drop 2) d))\/(vi= .int .i64 7/\Hid (escV d=escF (escL.drop 3) d))\/(vi= .int .i64 9/\Hid (escV d=escF (escL.drop 4) d))\/(vi= .int .i64 11/\Hid (escV d=escF (escL.drop 5) d))\/(vi= .int .i64 13/\Hid (escV d=escF (escL.drop 6) d)))/\Hid (Ext w wr)) (fun vi _=>14-(intOf vi).toNat)
 case atStart=>exact⟨.inl ⟨rfl,hide rfl⟩,hide (Ext.refl w)⟩
 case round=>
  obtain⟨hv,HX⟩:=hrel;rcases hv with⟨rfl,HT⟩|⟨rfl,HT⟩|⟨rfl,HT⟩|⟨rfl,HT⟩|⟨rfl,HT⟩|⟨rfl,HT⟩|⟨rfl,HT⟩
  ·have k1: ∀h,(⟨#[10,110,9,116,0,48,92,92,39,39,34,34]⟩:ByteArray)[1]'h=110:=fun _=>rfl;have k2: ∀h,(⟨#[10,110,9,116,0,48,92,92,39,39,34,34]⟩:ByteArray)[0]'h=10:=fun _=>rfl;by_cases hd:d=110
   ·subst hd;have HR:=hide (show elemL (92::110::r)=(10,2)from rfl);clear HT HV;go_wp2_with fail;refine wp_region_ext 5 1 [] mixed (by kernel_rfl) trivial ?_;repeat (refine sx ?_ (fun w1 hU=> ?_) ?_;rotate_left;(focus clear hU;go_simp<;>with_reducible rfl);simp only[pq0,pq1,pq2,pq3,pq4])
    intro w7 hw7 _;simp only[List.drop_succ_cons,List.drop_nil];have HK:=hide (HX.out.trans hw7.un);clear hw7;go_wp2_with fail;go_ret2;exact⟨ret_el (by rw[HR.out];rfl) (by rw[HR.out];rfl),HK.out⟩
   ·have hde:((d.toNat:Int)==110)=false:=(u8_eqI d 110 (by omega)).trans (beq_eq_false_iff_ne.2 hd);have hde2:((110:Int)==(d.toNat:Int))=false:=by rw[beq_eq_false_iff_ne]at hde⊢;exact fun e=>hde e.symm
    have HN:=hide (show escV d=escF (escL.drop 1) d by rw[HT.out];unfold escL;simp only[List.drop_succ_cons,List.drop_zero,escF];rw[if_neg hd]);clear hd;go_wp2_with fail;refine wp_region_ext 5 1 [] mixed (by kernel_rfl) trivial ?_;repeat (refine sx ?_ (fun w1 hU=> ?_) ?_;rotate_left;(focus clear hU;go_simp<;>with_reducible rfl);simp only[pq0,pq1,pq2,pq3,pq4])
    intro w7 hw7 _;simp only[List.drop_succ_cons,List.drop_nil];have HK:=hide (HX.out.trans hw7.un);clear hw7;go_wp2_with fail;go_roundw
    case rel=>exact⟨.inr (.inl ⟨rfl,HN⟩),HK⟩
    case measure=>simp[intOf]
  ·have k1: ∀h,(⟨#[10,110,9,116,0,48,92,92,39,39,34,34]⟩:ByteArray)[3]'h=116:=fun _=>rfl;have k2: ∀h,(⟨#[10,110,9,116,0,48,92,92,39,39,34,34]⟩:ByteArray)[2]'h=9:=fun _=>rfl;by_cases hd:d=116
   ·subst hd;have HR:=hide (show elemL (92::116::r)=(9,2)from rfl);clear HT HV;go_wp2_with fail;refine wp_region_ext 5 1 [] mixed (by kernel_rfl) trivial ?_;repeat (refine sx ?_ (fun w1 hU=> ?_) ?_;rotate_left;(focus clear hU;go_simp<;>with_reducible rfl);simp only[pq0,pq1,pq2,pq3,pq4])
    intro w7 hw7 _;simp only[List.drop_succ_cons,List.drop_nil];have HK:=hide (HX.out.trans hw7.un);clear hw7;go_wp2_with fail;go_ret2;exact⟨ret_el (by rw[HR.out];rfl) (by rw[HR.out];rfl),HK.out⟩
   ·have hde:((d.toNat:Int)==116)=false:=(u8_eqI d 116 (by omega)).trans (beq_eq_false_iff_ne.2 hd);have hde2:((116:Int)==(d.toNat:Int))=false:=by rw[beq_eq_false_iff_ne]at hde⊢;exact fun e=>hde e.symm
    have HN:=hide (show escV d=escF (escL.drop 2) d by rw[HT.out];unfold escL;simp only[List.drop_succ_cons,List.drop_zero,escF];rw[if_neg hd]);clear hd;go_wp2_with fail;refine wp_region_ext 5 1 [] mixed (by kernel_rfl) trivial ?_;repeat (refine sx ?_ (fun w1 hU=> ?_) ?_;rotate_left;(focus clear hU;go_simp<;>with_reducible rfl);simp only[pq0,pq1,pq2,pq3,pq4])
    intro w7 hw7 _;simp only[List.drop_succ_cons,List.drop_nil];have HK:=hide (HX.out.trans hw7.un);clear hw7;go_wp2_with fail;go_roundw
    case rel=>exact⟨.inr (.inr (.inl ⟨rfl,HN⟩)),HK⟩
    case measure=>simp[intOf]
  ·have k1: ∀h,(⟨#[10,110,9,116,0,48,92,92,39,39,34,34]⟩:ByteArray)[5]'h=48:=fun _=>rfl;have k2: ∀h,(⟨#[10,110,9,116,0,48,92,92,39,39,34,34]⟩:ByteArray)[4]'h=0:=fun _=>rfl;by_cases hd:d=48
   ·subst hd;have HR:=hide (show elemL (92::48::r)=(0,2)from rfl);clear HT HV;go_wp2_with fail;refine wp_region_ext 5 1 [] mixed (by kernel_rfl) trivial ?_;repeat (refine sx ?_ (fun w1 hU=> ?_) ?_;rotate_left;(focus clear hU;go_simp<;>with_reducible rfl);simp only[pq0,pq1,pq2,pq3,pq4])
    intro w7 hw7 _;simp only[List.drop_succ_cons,List.drop_nil];have HK:=hide (HX.out.trans hw7.un);clear hw7;go_wp2_with fail;go_ret2;exact⟨ret_el (by rw[HR.out];rfl) (by rw[HR.out];rfl),HK.out⟩
   ·have hde:((d.toNat:Int)==48)=false:=(u8_eqI d 48 (by omega)).trans (beq_eq_false_iff_ne.2 hd);have hde2:((48:Int)==(d.toNat:Int))=false:=by rw[beq_eq_false_iff_ne]at hde⊢;exact fun e=>hde e.symm
    have HN:=hide (show escV d=escF (escL.drop 3) d by rw[HT.out];unfold escL;simp only[List.drop_succ_cons,List.drop_zero,escF];rw[if_neg hd]);clear hd;go_wp2_with fail;refine wp_region_ext 5 1 [] mixed (by kernel_rfl) trivial ?_;repeat (refine sx ?_ (fun w1 hU=> ?_) ?_;rotate_left;(focus clear hU;go_simp<;>with_reducible rfl);simp only[pq0,pq1,pq2,pq3,pq4])
    intro w7 hw7 _;simp only[List.drop_succ_cons,List.drop_nil];have HK:=hide (HX.out.trans hw7.un);clear hw7;go_wp2_with fail;go_roundw
    case rel=>exact⟨.inr (.inr (.inr (.inl ⟨rfl,HN⟩))),HK⟩
    case measure=>simp[intOf]
  ·have k1: ∀h,(⟨#[10,110,9,116,0,48,92,92,39,39,34,34]⟩:ByteArray)[7]'h=92:=fun _=>rfl;have k2: ∀h,(⟨#[10,110,9,116,0,48,92,92,39,39,34,34]⟩:ByteArray)[6]'h=92:=fun _=>rfl;by_cases hd:d=92
   ·subst hd;have HR:=hide (show elemL (92::92::r)=(92,2)from rfl);clear HT HV;go_wp2_with fail;refine wp_region_ext 5 1 [] mixed (by kernel_rfl) trivial ?_;repeat (refine sx ?_ (fun w1 hU=> ?_) ?_;rotate_left;(focus clear hU;go_simp<;>with_reducible rfl);simp only[pq0,pq1,pq2,pq3,pq4])
    intro w7 hw7 _;simp only[List.drop_succ_cons,List.drop_nil];have HK:=hide (HX.out.trans hw7.un);clear hw7;go_wp2_with fail;go_ret2;exact⟨ret_el (by rw[HR.out];rfl) (by rw[HR.out];rfl),HK.out⟩
   ·have hde:((d.toNat:Int)==92)=false:=(u8_eqI d 92 (by omega)).trans (beq_eq_false_iff_ne.2 hd);have hde2:((92:Int)==(d.toNat:Int))=false:=by rw[beq_eq_false_iff_ne]at hde⊢;exact fun e=>hde e.symm
    have HN:=hide (show escV d=escF (escL.drop 4) d by rw[HT.out];unfold escL;simp only[List.drop_succ_cons,List.drop_zero,escF];rw[if_neg hd]);clear hd;go_wp2_with fail;refine wp_region_ext 5 1 [] mixed (by kernel_rfl) trivial ?_;repeat (refine sx ?_ (fun w1 hU=> ?_) ?_;rotate_left;(focus clear hU;go_simp<;>with_reducible rfl);simp only[pq0,pq1,pq2,pq3,pq4])
    intro w7 hw7 _;simp only[List.drop_succ_cons,List.drop_nil];have HK:=hide (HX.out.trans hw7.un);clear hw7;go_wp2_with fail;go_roundw
    case rel=>exact⟨.inr (.inr (.inr (.inr (.inl ⟨rfl,HN⟩)))),HK⟩
    case measure=>simp[intOf]
  ·have k1: ∀h,(⟨#[10,110,9,116,0,48,92,92,39,39,34,34]⟩:ByteArray)[9]'h=39:=fun _=>rfl;have k2: ∀h,(⟨#[10,110,9,116,0,48,92,92,39,39,34,34]⟩:ByteArray)[8]'h=39:=fun _=>rfl;by_cases hd:d=39
   ·subst hd;have HR:=hide (show elemL (92::39::r)=(39,2)from rfl);clear HT HV;go_wp2_with fail;refine wp_region_ext 5 1 [] mixed (by kernel_rfl) trivial ?_;repeat (refine sx ?_ (fun w1 hU=> ?_) ?_;rotate_left;(focus clear hU;go_simp<;>with_reducible rfl);simp only[pq0,pq1,pq2,pq3,pq4])
    intro w7 hw7 _;simp only[List.drop_succ_cons,List.drop_nil];have HK:=hide (HX.out.trans hw7.un);clear hw7;go_wp2_with fail;go_ret2;exact⟨ret_el (by rw[HR.out];rfl) (by rw[HR.out];rfl),HK.out⟩
   ·have hde:((d.toNat:Int)==39)=false:=(u8_eqI d 39 (by omega)).trans (beq_eq_false_iff_ne.2 hd);have hde2:((39:Int)==(d.toNat:Int))=false:=by rw[beq_eq_false_iff_ne]at hde⊢;exact fun e=>hde e.symm
    have HN:=hide (show escV d=escF (escL.drop 5) d by rw[HT.out];unfold escL;simp only[List.drop_succ_cons,List.drop_zero,escF];rw[if_neg hd]);clear hd;go_wp2_with fail;refine wp_region_ext 5 1 [] mixed (by kernel_rfl) trivial ?_;repeat (refine sx ?_ (fun w1 hU=> ?_) ?_;rotate_left;(focus clear hU;go_simp<;>with_reducible rfl);simp only[pq0,pq1,pq2,pq3,pq4])
    intro w7 hw7 _;simp only[List.drop_succ_cons,List.drop_nil];have HK:=hide (HX.out.trans hw7.un);clear hw7;go_wp2_with fail;go_roundw
    case rel=>exact⟨.inr (.inr (.inr (.inr (.inr (.inl ⟨rfl,HN⟩))))),HK⟩
    case measure=>simp[intOf]
  ·have k1: ∀h,(⟨#[10,110,9,116,0,48,92,92,39,39,34,34]⟩:ByteArray)[11]'h=34:=fun _=>rfl;have k2: ∀h,(⟨#[10,110,9,116,0,48,92,92,39,39,34,34]⟩:ByteArray)[10]'h=34:=fun _=>rfl;by_cases hd:d=34
   ·subst hd;have HR:=hide (show elemL (92::34::r)=(34,2)from rfl);clear HT HV;go_wp2_with fail;refine wp_region_ext 5 1 [] mixed (by kernel_rfl) trivial ?_;repeat (refine sx ?_ (fun w1 hU=> ?_) ?_;rotate_left;(focus clear hU;go_simp<;>with_reducible rfl);simp only[pq0,pq1,pq2,pq3,pq4])
    intro w7 hw7 _;simp only[List.drop_succ_cons,List.drop_nil];have HK:=hide (HX.out.trans hw7.un);clear hw7;go_wp2_with fail;go_ret2;exact⟨ret_el (by rw[HR.out];rfl) (by rw[HR.out];rfl),HK.out⟩
   ·have hde:((d.toNat:Int)==34)=false:=(u8_eqI d 34 (by omega)).trans (beq_eq_false_iff_ne.2 hd);have hde2:((34:Int)==(d.toNat:Int))=false:=by rw[beq_eq_false_iff_ne]at hde⊢;exact fun e=>hde e.symm
    have HN:=hide (show escV d=escF (escL.drop 6) d by rw[HT.out];unfold escL;simp only[List.drop_succ_cons,List.drop_zero,escF];rw[if_neg hd]);clear hd;go_wp2_with fail;refine wp_region_ext 5 1 [] mixed (by kernel_rfl) trivial ?_;repeat (refine sx ?_ (fun w1 hU=> ?_) ?_;rotate_left;(focus clear hU;go_simp<;>with_reducible rfl);simp only[pq0,pq1,pq2,pq3,pq4])
    intro w7 hw7 _;simp only[List.drop_succ_cons,List.drop_nil];have HK:=hide (HX.out.trans hw7.un);clear hw7;go_wp2_with fail;go_roundw
    case rel=>exact⟨.inr (.inr (.inr (.inr (.inr (.inr (⟨rfl,HN⟩)))))),HK⟩
    case measure=>simp[intOf]
  ·have HR:=hide (show elemL (92::d::r)=(0,0) by have h:escV d=none:=HT.out;simp[elemL,h]);clear HT HV;go_wp2_with fail;go_ret2;exact⟨ret_el (by rw[HR.out];rfl) (by rw[HR.out];rfl),HX.out⟩
theorem elem_any (l:List UInt8) (w:World) (hl:l.length<=100000):
  Calls prog 139 #[.string (str l)] w fun e w'=>e= .returned (.tuple #[.int .u8 ((elemL l).1.toNat:Int), .int .i64 ((elemL l).2:Int)])/\Ext w w':=by
 match l with
 | []=>
  go_enter func139,ntmps139;go_wp2_with fail;go_ret2;exact⟨rfl,Ext.refl w⟩
 |c::r=>
  have hsz:(str (c::r)).size=r.length+1:=by rw[str_size];rfl
  have h0:(0:Nat)<(str (c::r)).size:=by rw[hsz];omega
  have g0:(str (c::r))[0]=c:=rfl;by_cases h1:c.toNat<32
  ·have HR:=hide (show elemL (c::r)=(0,0) by simp[elemL,h1]);have h1':(c.toNat:Int)<32:=by omega
   go_enter func139,ntmps139;go_wp2_with fail;go_ret2;exact⟨ret_el (by rw[HR.out];rfl) (by rw[HR.out];rfl),Ext.refl w⟩
  by_cases h2:126<c.toNat
  ·have HR:=hide (show elemL (c::r)=(0,0) by simp[elemL,h2]);have h1': ¬(c.toNat:Int)<32:=by omega
   have h2':(126:Int)<c.toNat:=by omega
   go_enter func139,ntmps139;go_wp2_with fail;go_ret2;exact⟨ret_el (by rw[HR.out];rfl) (by rw[HR.out];rfl),Ext.refl w⟩
  have h1':decide ((c.toNat:Int)<32)=false:=by simp;omega
  have h2':decide ((126:Int)<c.toNat)=false:=by simp;omega
  by_cases h3:c=92
  ·subst h3
   match r with
   | []=>
    clear h1' h2';go_enter func139,ntmps139;go_wp2_with fail
    go_loopw [4] (fun vi wr=>vi= .int .i64 1/\wr=w) (fun vi _=>0)
    case atStart=>exact⟨rfl,rfl⟩
    case round=>
     obtain⟨rfl,rfl⟩:=hrel;go_wp2_with fail;go_ret2;exact⟨rfl,Ext.refl _⟩
   |d::r'=>exact elem_esc d r' w (by simp at hl;omega)
  ·have HR:=hide (show elemL (c::r)=(c,1) by simp only[elemL];rw[if_neg (by omega),if_pos h3]);have h3':((c.toNat:Int) !=92)=true:=by
    have h4:((c.toNat:Int)==92)=false:=(u8_eqI c 92 (by omega)).trans (beq_eq_false_iff_ne.2 h3);rw[bne,h4];rfl
   have h5: ¬(c.toNat:Int)<32:=by omega
   have h6: ¬(126:Int)<c.toNat:=by omega
   clear h3;go_enter func139,ntmps139;go_wp2_with fail;go_ret2;exact⟨ret_el (by rw[HR.out]) (by rw[HR.out];rfl),Ext.refl w⟩
theorem relem_esc (d:UInt8) (r:List UInt8) (w:World) (hl:r.length<=100000):
  Calls prog 103 #[.string (str (92::d::r))] w fun e w'=>e= .returned (.tuple #[.int .u8 ((elemL (92::d::r)).1.toNat:Int), .int .i64 ((elemL (92::d::r)).2:Int)])/\Ext w w':=by
 have hsz:(str (92::d::r)).size=r.length+2:=by rw[str_size];rfl
 have h0:(0:Nat)<(str (92::d::r)).size:=by rw[hsz];omega
 have h1:(1:Nat)<(str (92::d::r)).size:=by rw[hsz];omega
 have g0:(str (92::d::r))[0]=92:=rfl;have g1:(str (92::d::r))[1]=d:=rfl;have hlp:(1:Int)<(r.length:Int)+2:=by omega
 have HV:=hide (escV_eq d);go_enter func103,ntmps103;go_wp2_with fail
 go_loopw [6] (fun vi wr=>((vi= .int .i64 0/\Hid (escV d=escF (escL.drop 0) d))\/(vi= .int .i64 1/\Hid (escV d=escF (escL.drop 1) d))\/(vi= .int .i64 2/\Hid (escV d=escF (escL.drop 2) d))\/(vi= .int .i64 3/\Hid (escV d=escF (escL.drop 3) d))\/(vi= .int .i64 4/\Hid (escV d=escF (escL.drop 4) d))\/(vi= .int .i64 5/\Hid (escV d=escF (escL.drop 5) d))\/(vi= .int .i64 6/\Hid (escV d=escF (escL.drop 6) d)))/\Hid (Ext w wr)) (fun vi _=>7-(intOf vi).toNat)
 case atStart=>exact⟨.inl ⟨rfl,hide rfl⟩,hide (Ext.refl w)⟩
 case round=>
  obtain⟨hv,HX⟩:=hrel;rcases hv with⟨rfl,HT⟩|⟨rfl,HT⟩|⟨rfl,HT⟩|⟨rfl,HT⟩|⟨rfl,HT⟩|⟨rfl,HT⟩|⟨rfl,HT⟩
  ·have k1: ∀h,(⟨#[110,116,48,92,39,34]⟩:ByteArray)[0]'h=110:=fun _=>rfl;have k2: ∀h,(⟨#[10,9,0,92,39,34]⟩:ByteArray)[0]'h=10:=fun _=>rfl;by_cases hd:d=110
   ·subst hd;have HR:=hide (show elemL (92::110::r)=(10,2)from rfl);clear HT HV;go_wp2_with fail;refine wp_region_ext 6 1 [] mixed (by kernel_rfl) trivial ?_;repeat (refine sx ?_ (fun w1 hU=> ?_) ?_;rotate_left;(focus clear hU;go_simp<;>with_reducible rfl);simp only[pq0,pq1,pq2,pq3,pq4])
    intro w7 hw7 _;simp only[List.drop_succ_cons,List.drop_nil];have HK:=hide (HX.out.trans hw7.un);clear hw7;go_wp2_with fail;go_ret2;exact⟨ret_el (by rw[HR.out];rfl) (by rw[HR.out];rfl),HK.out⟩
   ·have hde:((d.toNat:Int)==110)=false:=(u8_eqI d 110 (by omega)).trans (beq_eq_false_iff_ne.2 hd);have hde2:((110:Int)==(d.toNat:Int))=false:=by rw[beq_eq_false_iff_ne]at hde⊢;exact fun e=>hde e.symm
    have HN:=hide (show escV d=escF (escL.drop 1) d by rw[HT.out];unfold escL;simp only[List.drop_succ_cons,List.drop_zero,escF];rw[if_neg hd]);clear hd;go_wp2_with fail;refine wp_region_ext 6 1 [] mixed (by kernel_rfl) trivial ?_;repeat (refine sx ?_ (fun w1 hU=> ?_) ?_;rotate_left;(focus clear hU;go_simp<;>with_reducible rfl);simp only[pq0,pq1,pq2,pq3,pq4])
    intro w7 hw7 _;simp only[List.drop_succ_cons,List.drop_nil];have HK:=hide (HX.out.trans hw7.un);clear hw7;go_wp2_with fail;go_roundw
    case rel=>exact⟨.inr (.inl ⟨rfl,HN⟩),HK⟩
    case measure=>simp[intOf]
  ·have k1: ∀h,(⟨#[110,116,48,92,39,34]⟩:ByteArray)[1]'h=116:=fun _=>rfl;have k2: ∀h,(⟨#[10,9,0,92,39,34]⟩:ByteArray)[1]'h=9:=fun _=>rfl;by_cases hd:d=116
   ·subst hd;have HR:=hide (show elemL (92::116::r)=(9,2)from rfl);clear HT HV;go_wp2_with fail;refine wp_region_ext 6 1 [] mixed (by kernel_rfl) trivial ?_;repeat (refine sx ?_ (fun w1 hU=> ?_) ?_;rotate_left;(focus clear hU;go_simp<;>with_reducible rfl);simp only[pq0,pq1,pq2,pq3,pq4])
    intro w7 hw7 _;simp only[List.drop_succ_cons,List.drop_nil];have HK:=hide (HX.out.trans hw7.un);clear hw7;go_wp2_with fail;go_ret2;exact⟨ret_el (by rw[HR.out];rfl) (by rw[HR.out];rfl),HK.out⟩
   ·have hde:((d.toNat:Int)==116)=false:=(u8_eqI d 116 (by omega)).trans (beq_eq_false_iff_ne.2 hd);have hde2:((116:Int)==(d.toNat:Int))=false:=by rw[beq_eq_false_iff_ne]at hde⊢;exact fun e=>hde e.symm
    have HN:=hide (show escV d=escF (escL.drop 2) d by rw[HT.out];unfold escL;simp only[List.drop_succ_cons,List.drop_zero,escF];rw[if_neg hd]);clear hd;go_wp2_with fail;refine wp_region_ext 6 1 [] mixed (by kernel_rfl) trivial ?_;repeat (refine sx ?_ (fun w1 hU=> ?_) ?_;rotate_left;(focus clear hU;go_simp<;>with_reducible rfl);simp only[pq0,pq1,pq2,pq3,pq4])
    intro w7 hw7 _;simp only[List.drop_succ_cons,List.drop_nil];have HK:=hide (HX.out.trans hw7.un);clear hw7;go_wp2_with fail;go_roundw
    case rel=>exact⟨.inr (.inr (.inl ⟨rfl,HN⟩)),HK⟩
    case measure=>simp[intOf]
  ·have k1: ∀h,(⟨#[110,116,48,92,39,34]⟩:ByteArray)[2]'h=48:=fun _=>rfl;have k2: ∀h,(⟨#[10,9,0,92,39,34]⟩:ByteArray)[2]'h=0:=fun _=>rfl;by_cases hd:d=48
   ·subst hd;have HR:=hide (show elemL (92::48::r)=(0,2)from rfl);clear HT HV;go_wp2_with fail;refine wp_region_ext 6 1 [] mixed (by kernel_rfl) trivial ?_;repeat (refine sx ?_ (fun w1 hU=> ?_) ?_;rotate_left;(focus clear hU;go_simp<;>with_reducible rfl);simp only[pq0,pq1,pq2,pq3,pq4])
    intro w7 hw7 _;simp only[List.drop_succ_cons,List.drop_nil];have HK:=hide (HX.out.trans hw7.un);clear hw7;go_wp2_with fail;go_ret2;exact⟨ret_el (by rw[HR.out];rfl) (by rw[HR.out];rfl),HK.out⟩
   ·have hde:((d.toNat:Int)==48)=false:=(u8_eqI d 48 (by omega)).trans (beq_eq_false_iff_ne.2 hd);have hde2:((48:Int)==(d.toNat:Int))=false:=by rw[beq_eq_false_iff_ne]at hde⊢;exact fun e=>hde e.symm
    have HN:=hide (show escV d=escF (escL.drop 3) d by rw[HT.out];unfold escL;simp only[List.drop_succ_cons,List.drop_zero,escF];rw[if_neg hd]);clear hd;go_wp2_with fail;refine wp_region_ext 6 1 [] mixed (by kernel_rfl) trivial ?_;repeat (refine sx ?_ (fun w1 hU=> ?_) ?_;rotate_left;(focus clear hU;go_simp<;>with_reducible rfl);simp only[pq0,pq1,pq2,pq3,pq4])
    intro w7 hw7 _;simp only[List.drop_succ_cons,List.drop_nil];have HK:=hide (HX.out.trans hw7.un);clear hw7;go_wp2_with fail;go_roundw
    case rel=>exact⟨.inr (.inr (.inr (.inl ⟨rfl,HN⟩))),HK⟩
    case measure=>simp[intOf]
  ·have k1: ∀h,(⟨#[110,116,48,92,39,34]⟩:ByteArray)[3]'h=92:=fun _=>rfl;have k2: ∀h,(⟨#[10,9,0,92,39,34]⟩:ByteArray)[3]'h=92:=fun _=>rfl;by_cases hd:d=92
   ·subst hd;have HR:=hide (show elemL (92::92::r)=(92,2)from rfl);clear HT HV;go_wp2_with fail;refine wp_region_ext 6 1 [] mixed (by kernel_rfl) trivial ?_;repeat (refine sx ?_ (fun w1 hU=> ?_) ?_;rotate_left;(focus clear hU;go_simp<;>with_reducible rfl);simp only[pq0,pq1,pq2,pq3,pq4])
    intro w7 hw7 _;simp only[List.drop_succ_cons,List.drop_nil];have HK:=hide (HX.out.trans hw7.un);clear hw7;go_wp2_with fail;go_ret2;exact⟨ret_el (by rw[HR.out];rfl) (by rw[HR.out];rfl),HK.out⟩
   ·have hde:((d.toNat:Int)==92)=false:=(u8_eqI d 92 (by omega)).trans (beq_eq_false_iff_ne.2 hd);have hde2:((92:Int)==(d.toNat:Int))=false:=by rw[beq_eq_false_iff_ne]at hde⊢;exact fun e=>hde e.symm
    have HN:=hide (show escV d=escF (escL.drop 4) d by rw[HT.out];unfold escL;simp only[List.drop_succ_cons,List.drop_zero,escF];rw[if_neg hd]);clear hd;go_wp2_with fail;refine wp_region_ext 6 1 [] mixed (by kernel_rfl) trivial ?_;repeat (refine sx ?_ (fun w1 hU=> ?_) ?_;rotate_left;(focus clear hU;go_simp<;>with_reducible rfl);simp only[pq0,pq1,pq2,pq3,pq4])
    intro w7 hw7 _;simp only[List.drop_succ_cons,List.drop_nil];have HK:=hide (HX.out.trans hw7.un);clear hw7;go_wp2_with fail;go_roundw
    case rel=>exact⟨.inr (.inr (.inr (.inr (.inl ⟨rfl,HN⟩)))),HK⟩
    case measure=>simp[intOf]
  ·have k1: ∀h,(⟨#[110,116,48,92,39,34]⟩:ByteArray)[4]'h=39:=fun _=>rfl;have k2: ∀h,(⟨#[10,9,0,92,39,34]⟩:ByteArray)[4]'h=39:=fun _=>rfl;by_cases hd:d=39
   ·subst hd;have HR:=hide (show elemL (92::39::r)=(39,2)from rfl);clear HT HV;go_wp2_with fail;refine wp_region_ext 6 1 [] mixed (by kernel_rfl) trivial ?_;repeat (refine sx ?_ (fun w1 hU=> ?_) ?_;rotate_left;(focus clear hU;go_simp<;>with_reducible rfl);simp only[pq0,pq1,pq2,pq3,pq4])
    intro w7 hw7 _;simp only[List.drop_succ_cons,List.drop_nil];have HK:=hide (HX.out.trans hw7.un);clear hw7;go_wp2_with fail;go_ret2;exact⟨ret_el (by rw[HR.out];rfl) (by rw[HR.out];rfl),HK.out⟩
   ·have hde:((d.toNat:Int)==39)=false:=(u8_eqI d 39 (by omega)).trans (beq_eq_false_iff_ne.2 hd);have hde2:((39:Int)==(d.toNat:Int))=false:=by rw[beq_eq_false_iff_ne]at hde⊢;exact fun e=>hde e.symm
    have HN:=hide (show escV d=escF (escL.drop 5) d by rw[HT.out];unfold escL;simp only[List.drop_succ_cons,List.drop_zero,escF];rw[if_neg hd]);clear hd;go_wp2_with fail;refine wp_region_ext 6 1 [] mixed (by kernel_rfl) trivial ?_;repeat (refine sx ?_ (fun w1 hU=> ?_) ?_;rotate_left;(focus clear hU;go_simp<;>with_reducible rfl);simp only[pq0,pq1,pq2,pq3,pq4])
    intro w7 hw7 _;simp only[List.drop_succ_cons,List.drop_nil];have HK:=hide (HX.out.trans hw7.un);clear hw7;go_wp2_with fail;go_roundw
    case rel=>exact⟨.inr (.inr (.inr (.inr (.inr (.inl ⟨rfl,HN⟩))))),HK⟩
    case measure=>simp[intOf]
  ·have k1: ∀h,(⟨#[110,116,48,92,39,34]⟩:ByteArray)[5]'h=34:=fun _=>rfl;have k2: ∀h,(⟨#[10,9,0,92,39,34]⟩:ByteArray)[5]'h=34:=fun _=>rfl;by_cases hd:d=34
   ·subst hd;have HR:=hide (show elemL (92::34::r)=(34,2)from rfl);clear HT HV;go_wp2_with fail;refine wp_region_ext 6 1 [] mixed (by kernel_rfl) trivial ?_;repeat (refine sx ?_ (fun w1 hU=> ?_) ?_;rotate_left;(focus clear hU;go_simp<;>with_reducible rfl);simp only[pq0,pq1,pq2,pq3,pq4])
    intro w7 hw7 _;simp only[List.drop_succ_cons,List.drop_nil];have HK:=hide (HX.out.trans hw7.un);clear hw7;go_wp2_with fail;go_ret2;exact⟨ret_el (by rw[HR.out];rfl) (by rw[HR.out];rfl),HK.out⟩
   ·have hde:((d.toNat:Int)==34)=false:=(u8_eqI d 34 (by omega)).trans (beq_eq_false_iff_ne.2 hd);have hde2:((34:Int)==(d.toNat:Int))=false:=by rw[beq_eq_false_iff_ne]at hde⊢;exact fun e=>hde e.symm
    have HN:=hide (show escV d=escF (escL.drop 6) d by rw[HT.out];unfold escL;simp only[List.drop_succ_cons,List.drop_zero,escF];rw[if_neg hd]);clear hd;go_wp2_with fail;refine wp_region_ext 6 1 [] mixed (by kernel_rfl) trivial ?_;repeat (refine sx ?_ (fun w1 hU=> ?_) ?_;rotate_left;(focus clear hU;go_simp<;>with_reducible rfl);simp only[pq0,pq1,pq2,pq3,pq4])
    intro w7 hw7 _;simp only[List.drop_succ_cons,List.drop_nil];have HK:=hide (HX.out.trans hw7.un);clear hw7;go_wp2_with fail;go_roundw
    case rel=>exact⟨.inr (.inr (.inr (.inr (.inr (.inr (⟨rfl,HN⟩)))))),HK⟩
    case measure=>simp[intOf]
  ·have HR:=hide (show elemL (92::d::r)=(0,0) by have h:escV d=none:=HT.out;simp[elemL,h]);clear HT HV;go_wp2_with fail;go_ret2;exact⟨ret_el (by rw[HR.out];rfl) (by rw[HR.out];rfl),HX.out⟩
theorem relem_any (l:List UInt8) (w:World) (hl:l.length<=100000):
  Calls prog 103 #[.string (str l)] w fun e w'=>e= .returned (.tuple #[.int .u8 ((elemL l).1.toNat:Int), .int .i64 ((elemL l).2:Int)])/\Ext w w':=by
 match l with
 | []=>
  go_enter func103,ntmps103;go_wp2_with fail;go_ret2;exact⟨rfl,Ext.refl w⟩
 |c::r=>
  have hsz:(str (c::r)).size=r.length+1:=by rw[str_size];rfl
  have h0:(0:Nat)<(str (c::r)).size:=by rw[hsz];omega
  have g0:(str (c::r))[0]=c:=rfl;by_cases h1:c.toNat<32
  ·have HR:=hide (show elemL (c::r)=(0,0) by simp[elemL,h1]);have h1':(c.toNat:Int)<32:=by omega
   go_enter func103,ntmps103;go_wp2_with fail;go_ret2;exact⟨ret_el (by rw[HR.out];rfl) (by rw[HR.out];rfl),Ext.refl w⟩
  by_cases h2:126<c.toNat
  ·have HR:=hide (show elemL (c::r)=(0,0) by simp[elemL,h2]);have h1': ¬(c.toNat:Int)<32:=by omega
   have h2':(126:Int)<c.toNat:=by omega
   go_enter func103,ntmps103;go_wp2_with fail;go_ret2;exact⟨ret_el (by rw[HR.out];rfl) (by rw[HR.out];rfl),Ext.refl w⟩
  have h1':decide ((c.toNat:Int)<32)=false:=by simp;omega
  have h2':decide ((126:Int)<c.toNat)=false:=by simp;omega
  by_cases h3:c=92
  ·subst h3
   match r with
   | []=>
    clear h1' h2';go_enter func103,ntmps103;go_wp2_with fail
    go_loopw [6] (fun vi wr=>vi= .int .i64 0/\wr=w) (fun vi _=>0)
    case atStart=>exact⟨rfl,rfl⟩
    case round=>
     obtain⟨rfl,rfl⟩:=hrel;go_wp2_with fail;go_ret2;exact⟨rfl,Ext.refl _⟩
   |d::r'=>exact relem_esc d r' w (by simp at hl;omega)
  ·have HR:=hide (show elemL (c::r)=(c,1) by simp only[elemL];rw[if_neg (by omega),if_pos h3]);have h3':((c.toNat:Int) !=92)=true:=by
    have h4:((c.toNat:Int)==92)=false:=(u8_eqI c 92 (by omega)).trans (beq_eq_false_iff_ne.2 h3);rw[bne,h4];rfl
   have h5: ¬(c.toNat:Int)<32:=by omega
   have h6: ¬(126:Int)<c.toNat:=by omega
   clear h3;go_enter func103,ntmps103;go_wp2_with fail;go_ret2;exact⟨ret_el (by rw[HR.out]) (by rw[HR.out];rfl),Ext.refl w⟩
end Go.Proofs.YtelplgkppalmfaaGreatDoor
