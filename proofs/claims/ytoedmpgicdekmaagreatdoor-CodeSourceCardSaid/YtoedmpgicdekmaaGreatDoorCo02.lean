/- Parts of the proof. -/
import Derived.WalkSpells
import Derived.WalkLawsBesides
import Derived.Test.YtoedmpgicdekmaaGreatDoorCo01
set_option maxRecDepth 100000
set_option maxHeartbeats 8000000
set_option linter.all false
namespace Go.Proofs.YtoedmpgicdekmaaGreatDoor
open Go.Proofs.Tryz
section
open Go.RowKit
theorem au.alloc (a:World) (d:Obj):au a (a.alloc d):=(Below.refl _ _).alloc (ah _) d
theorem au.alloc' {h a:World} (o:au h a) (d:Obj):au h (a.alloc d):=o.trans (au.alloc a d)
theorem au.drew {d a:World} (h:au d a):au d a.drew:=Below.drew h
theorem au.set {a d:World} (u:au a d) {p:Addr} (o:a.heap.size<=p.block) (h:Value):au a (d.setCell p h):=Below.setCell u o h
theorem au.grown {a d w':World} {row:Option Nat} (h:au a d) (u:d.grownBy w' row) (o: ∀k,row=some k->a.heap.size<=k):au a w':=Below.grown h u h.size o
theorem au.cell {d w':World} (o:au d w'): ∀b a,b<d.heap.size->w'.cell? ⟨b,a,none⟩=d.cell? ⟨b,a,none⟩:=λb a h=>Below.cell o (p:=⟨b,a,none⟩) h
theorem G {p:Prop} (a:p):Hid p:=a
def rz (b:UInt8):Value:=.int .u8 (b.toNat:Int)
def iM (l:List UInt8):List Value:=l.map rz
theorem jT (l:List UInt8):(iM l).length=l.length:=by simp[iM]
structure Sl (w:World) (A:Option Addr) (cap:Nat) (l:List UInt8):Prop where
 le:l.length<=cap
 max:cap<=maxLen
 nil:A=none->cap=0
 rd:l=[]\/ ∃b off,A=some ⟨b,off,none⟩/\b<w.heap.size/\ ∀i,(h:i<l.length)->w.cell? ⟨b,off+i,none⟩=some (.int .u8 (l[i].toNat:Int))
theorem Sl.none_ (a:World):Sl a none 0 []:=⟨by simp,by simp[maxLen],λ_=>rfl,.inl rfl⟩
theorem Sl.ext {d w':World} {w:Option Addr} {u:Nat} {l:List UInt8} (a:Sl d w u l) (h:au d w'):Sl w' w u l:=
 ⟨a.le,a.max,a.nil,a.rd.imp id fun⟨b,off,ha,o,y⟩=>⟨b,off,ha,aA o h.size,λi hi=>(h.cell b _ o).trans (y i hi)⟩⟩
def im (w:World) (base:Nat) (e:TypeId) (v:Value) (l:List UInt8):Prop:=w.ownsRow base e 1 v l.length (iM l)
theorem im.sl {a:World} {base:Nat} {e:TypeId} {A:Option Addr} {n z:Nat} {l:List UInt8} (o:im a base e (.slice A n z) l):n=l.length/\Sl a A z l:=by
 obtain⟨R,G⟩:=o;rcases G with⟨d,F⟩|⟨g,c,cur,d,hb,hg,hnc,hcm,hcs,ht⟩
 ·injection d with y w u;subst y w u;have:l=[]:=aX F;subst this;exact⟨rfl,Sl.none_ a⟩
 ·injection d with y w u;subst y w u;refine⟨rfl,hnc,hcm,(λo=>by cases o),.inr ⟨g,0,rfl,(Array.getElem?_eq_some_iff.1 hg).1,λi hi=> ?_⟩⟩;rw[aE,cell_of_row a g i cur e (0,0) hg];have h:(iM l)[i]? =some (rz l[i]):=by simp[iM,hi]
  rw[<-ht,ch]at h;rw[if_pos J]at h;simpa[rz]using h
structure mo (P:Program) (t e:TypeId):Prop where
 under:P.underlying t=some (.slice e)
 info:(P.info? e).map (λi=>(i.zero,i.size,i.bytes))=some (some (.int .u8 0),1,1)
section
variable {P:Program} {w:World}
theorem im.form {base:Nat} {e:TypeId} {v:Value} {l:List UInt8} (h:im w base e v l): ∃o a,v=.slice o l.length a:=by
 rcases h.2 with⟨rfl,d⟩|⟨g,a,cur,rfl,_⟩
 ·exact⟨none,0,by rw[d]⟩
 ·exact⟨_,_,rfl⟩
theorem pJ {t e:TypeId} (o:mo P t e) (ty:TypeId) (base:Nat) (v:Value) (l:List UInt8) (h:im w base e v l) (u:Option Addr) (d:Nat) (m:List UInt8) (af:Sl w u d m)
  (Z:l.length+m.length<=70368744177664) (aj:base<=w.heap.size):
  ∃a cap' w',(Builtin.append_ #[t,t] ty #[v,.slice u m.length d]).run P w=.ok (.slice a (l.length+m.length) cap') w'/\im w' base e (.slice a (l.length+m.length) cap') (l++m)/\w.grownBy w' v.ownBlock/\
   (Value.ownBlock (.slice a (l.length+m.length) cap')=v.ownBlock\/Value.ownBlock (.slice a (l.length+m.length) cap')=some w.heap.size):=by
 obtain⟨i,hi,ae,I,aa⟩:=info_parts o.info;have X: ∀v' w',(Builtin.append_ #[t,t] ty #[v,.slice u m.length d]).run P w=.ok v' w'->w'.ownsRow base e 1 v' (l.length+m.length) (iM l++iM m)->w.grownBy w' v.ownBlock->(v'.ownBlock=v.ownBlock\/v'.ownBlock=some w.heap.size)->
   ∃a cap' w',(Builtin.append_ #[t,t] ty #[v,.slice u m.length d]).run P w=.ok (.slice a (l.length+m.length) cap') w'/\im w' base e (.slice a (l.length+m.length) cap') (l++m)/\w.grownBy w' v.ownBlock/\
    (Value.ownBlock (.slice a (l.length+m.length) cap')=v.ownBlock\/Value.ownBlock (.slice a (l.length+m.length) cap')=some w.heap.size):=by
  intro v' w' ag al an ai;have F:im w' base e v' (l++m):=by unfold im;rw[H];simpa[iM]using al
  obtain⟨a,cap',rfl⟩:=F.form;rw[H]at ag F ai;exact⟨a,cap',w',ag,F,an,ai⟩
 have ao: ∀z∈iM m,z.oneCell'=true:=λz y=>by
  obtain⟨b,_,rfl⟩:=List.mem_map.1 y;rfl
 rcases af.rd with rfl|⟨b,off,rfl,_,hc⟩
 ·rcases u with _|ad
  ·obtain rfl:d=0:=af.nil rfl;refine X v w ?_ (by unfold im at h;simpa[iM]using h) (World.grownBy.refl w _) (.inl rfl);rcases h.2 with⟨rfl,am⟩|⟨g,c,cur,rfl,_,_,hnc,_⟩
   ·have:l=[]:=aX am;subst this;simp[Builtin.append_,run_underlying o.under,sizeOf,typeInfo,hi,Builtin.lenOf,Builtin.firstCells]
   ·simp[Builtin.append_,run_underlying o.under,sizeOf,typeInfo,hi,Builtin.lenOf,Builtin.firstCells,hnc,storeCells]
  ·obtain⟨v',w',A,V,R,_,G⟩:=run_append_own_at (P:=P) w base t ty e i (.int .u8 0) 1 1 o.under hi ae I aa rfl Qd v l.length (iM l) h ad 0 d [] Qe Qe Qe (by simp only[maxLen];simp at Z;omega) (by simp at Z;omega) aj;exact X v' w' A (by simpa[iM]using V) R G
 ·obtain⟨v',w',A,V,R,_,G⟩:=run_append_own_at (P:=P) w base t ty e i (.int .u8 0) 1 1 o.under hi ae I aa rfl Qd v l.length (iM l) h ⟨b,off,none⟩ m.length d (iM m) (by simp[iM]) (λj z y=>by
    have ah:j<m.length:=by have:=(List.getElem?_eq_some_iff.1 y).1;simpa[iM]using this
    rw[Addr.add_lit,hc j ah,<-y]
    simp[iM,rz,ah]) ao Qh J aj
  exact X v' w' A V R G
theorem eO {ops:Array Oper} {rest:List Oper} {d:Oper} {h:Act} {Q:Exit->Act->World->Prop} {t e:TypeId} (I:mo P t e) (V:d.guard=none) (s x:Operand)
  (R:d.op=.call {callee:=.builtin .append,args:= #[s,x],argTypes:= #[t,t]}) (base:Nat) (v:Value) (l:List UInt8) (z:h.eval s=v) (G:im w base e v l)
  (u:Option Addr) (o:Nat) (m:List UInt8) (y:h.eval x=.slice u m.length o) (A:Sl w u o m) (aa:l.length+m.length<=70368744177664) (X:base<=w.heap.size)
  (ag: ∀a cap' w',im w' base e (.slice a (l.length+m.length) cap') (l++m)->w.grownBy w' v.ownBlock->
   (Value.ownBlock (.slice a (l.length+m.length) cap')=v.ownBlock\/Value.ownBlock (.slice a (l.length+m.length) cap')=some w.heap.size)->wpList P ops Q rest (h.put d.dst (.slice a (l.length+m.length) cap')) w'):
  wpList P ops Q (d::rest) h w:=by
 obtain⟨a,cap',w',F,af,ae,ad⟩:=pJ (P:=P) (w:=w) I d.type base v l G u o m A aa X;refine wpList_plain V λK H=> ?_;unfold Oper.wp execOp;simp only[R,resolve,invoke,builtin,Sem.run_bind,Sem.run_pure,Result.andThen_ok,dx,bL,dz,z,y,F];exact H _ _ (ag a cap' w' af ae ad)
end
theorem im.nil_ (a:World) (base:Nat) (e:TypeId):im a base e (.slice none 0 0) []:=World.ownsRow_nil a base e 1
def Z (l:List UInt8):ByteArray:=⟨l.toArray⟩
@[simp] theorem Gn (l:List UInt8):(Z l).toList=l:=by simp[Z]
theorem Sl.convert {P:Program} {src dst e:TypeId} {a:World} {h:Option Addr} {d:Nat} {l:List UInt8} (o:P.underlying src=some (.slice e)) (u:P.underlying e=some (.int .u8)) (w:P.underlying dst=some .string) (z:Sl a h d l):
  (Go.convert src dst (.slice h l.length d)).run P a=.ok (.string (Z l)) a:=by
 rcases z.rd with rfl|⟨b,off,rfl,_,hc⟩
 ·rw[run_convert_bytes_string a src dst e h _ d o u w]
  cases h<;>simp[Conv.bytesToString,loadCells,loadCellsFrom]<;>rfl
 ·exact run_convert_bytes_back a src dst e ⟨b,off,none⟩ d l o u w (λj y=>by rw[Addr.add_lit];exact hc j y)
theorem im.grown {a w':World} {base:Nat} {e:TypeId} {v:Value} {l:List UInt8} {row:Option Nat} (o:im a base e v l) (h:a.grownBy w' row) (d:v.ownBlock=none\/v.ownBlock≠row):im w' base e v l:=World.ownsRow.kept o h d
theorem im.ext {a w':World} {base:Nat} {e:TypeId} {v:Value} {l:List UInt8} (h:im a base e v l) (d:au a w'):im w' base e v l:=h.grown (d.grownBy none) (by cases v.ownBlock<;>simp)
def aO (w:World) (g:Nat) (t:TypeId) (cs:Array Value):Prop:=w.heap[g]? =some (.cells cs t (0,0))
section
variable {w w':World} {g:Nat} {t:TypeId} {cs:Array Value}
theorem aO.lt (a:aO w g t cs):g<w.heap.size:=(Array.getElem?_eq_some_iff.1 a).1
theorem aO.cell (a:aO w g t cs) (i:Nat):w.cell? ⟨g,i,none⟩=cs[i]? :=cell_of_row w g i cs t (0,0) a
theorem aO.frozen (a:aO w g t cs) (i:Nat):w.frozen? ⟨g,i,none⟩=false:=by unfold aO at a;simp[World.frozen?,a]
theorem aO.new (w:World) (t:TypeId) (cs:Array Value):aO (w.alloc (.cells cs t)) w.heap.size t cs:=heap_alloc_new w _
theorem aO.drew (a:aO w g t cs):aO w.drew g t cs:=a
theorem aO.alloc (d:aO w g t cs) (a:Obj):aO (w.alloc a) g t cs:=(Below.heap_alloc w a g d.lt).trans d
theorem aO.set (d:aO w g t cs) (i:Nat) (a:Value):aO (w.setCell ⟨g,i,none⟩ a) g t (cs.setIfInBounds i a):=by
 unfold aO at d⊢;simp[World.setCell,Array.getElem?_modify,d]
theorem aO.far (h:aO w g t cs) {p:Addr} (d:g≠p.block) (a:Value):aO (w.setCell p a) g t cs:=(Below.heap_setCell w p a g d).trans h
theorem aO.ext (a:aO w g t cs) (d:au w w'):aO w' g t cs:=(d.obj a.lt).trans a
theorem aO.grown {row:Option Nat} (a:aO w g t cs) (h:w.grownBy w' row) (d:some g≠row):aO w' g t cs:=(h.block g a.lt d).trans a
end
theorem mixed:prog.follows .mixedOrders=true:=Qb
theorem fI {a b:Bool} (d:a=b):Ending.returned (.bool a)=.returned (.bool b):=by rw[d]
theorem ob {k:IntKind} {a b:Int} (d:a=b):Ending.returned (.int k a)=.returned (.int k b):=by rw[d]
theorem Hu (x d:UInt8):bits .or .u8 (x.toNat:Int) (d.toNat:Int)=((x|||d).toNat:Int):=by
 show IntKind.u8.wrap ((BitVec.ofInt 8 (x.toNat:Int)|||BitVec.ofInt 8 (d.toNat:Int)).toNat:Int)=_;have e: ∀a:UInt8,BitVec.ofInt 8 (a.toNat:Int)=a.toBitVec:=λa=>by
  rw[BitVec.ofInt_natCast];exact BitVec.eq_of_toNat_eq Qe
 rw[e,e,<-UInt8.toBitVec_or];generalize x|||d=a;have h:=a.toNat_lt;show IntKind.u8.wrap (a.toNat:Int)=(a.toNat:Int);simp only[IntKind.wrap,IntKind.signed,IntKind.bits];simp;omega
theorem nz (c:UInt8) (o:World):Calls prog 108 #[.int .u8 (c.toNat:Int)] o λe w'=>e=.returned (.bool (mN c))/\o=w':=by
 have y:=Hu c 32;have e:((32:UInt8).toNat:Int)=32:=rfl;rw[e]at y;have d:=G (show mN c=decide (97<=(c|||32).toNat/\(c|||32).toNat<=122)from rfl);generalize (c|||32)=q at*;clear e;by_cases h1:97<=q.toNat
 ·by_cases h2:q.toNat<=122
  ·have a:=G (show mN c=true by rw[d.out];simp[h1,h2]);have u:(97:Int)<=q.toNat:=J
   have w:(q.toNat:Int)<=122:=J
   go_enter func108,ntmps108;go_wp2;go_ret;exact⟨fI a.out.symm,rfl⟩
  ·have a:=G (show mN c=false by rw[d.out];simp[h1,h2]);have u:(97:Int)<=q.toNat:=J
   have w: ¬(q.toNat:Int)<=122:=J
   go_enter func108,ntmps108;go_wp2;go_ret;exact⟨fI a.out.symm,rfl⟩
 ·have a:=G (show mN c=false by rw[d.out];simp[h1]);have u: ¬(97:Int)<=q.toNat:=J
  go_enter func108,ntmps108;go_wp2;go_ret;exact⟨fI a.out.symm,rfl⟩
theorem pp (c:UInt8) (o:World):Calls prog 152 #[.int .u8 (c.toNat:Int)] o λe w'=>e=.returned (.bool (fT c))/\o=w':=by
 have d:=G (show fT c=decide (48<=c.toNat/\c.toNat<=57)from rfl);by_cases h1:48<=c.toNat
 ·by_cases h2:c.toNat<=57
  ·have a:=G (show fT c=true by rw[d.out];simp[h1,h2]);have u:(48:Int)<=c.toNat:=J
   have w:(c.toNat:Int)<=57:=J
   go_enter func152,ntmps152;go_wp2;go_ret;exact⟨fI a.out.symm,rfl⟩
  ·have a:=G (show fT c=false by rw[d.out];simp[h1,h2]);have u:(48:Int)<=c.toNat:=J
   have w: ¬(c.toNat:Int)<=57:=J
   go_enter func152,ntmps152;go_wp2;go_ret;exact⟨fI a.out.symm,rfl⟩
 ·have a:=G (show fT c=false by rw[d.out];simp[h1]);have u: ¬(48:Int)<=c.toNat:=J
  go_enter func152,ntmps152;go_wp2;go_ret;exact⟨fI a.out.symm,rfl⟩
theorem eG (a:UInt8) (n:Nat) (o:n<256):((a.toNat:Int)==(n:Int))=(a==UInt8.ofNat n):=by
 by_cases h:a=UInt8.ofNat n
 ·subst h;have:(UInt8.ofNat n).toNat=n:=by rw[eL];omega
  rw[this];simp
 ·have d:(a.toNat:Int)≠(n:Int):=λe=>h (UInt8.toNat_inj.1 (by rw[eL];omega));rw[Qn.2 h,Qn.2 d]
theorem oq (c:UInt8) (a:World):Calls prog 107 #[.int .u8 (c.toNat:Int)] a λe w'=>e=.returned (.bool (gq c))/\a=w':=by
 have z:((c.toNat:Int)==95)=(c==95):=eG c 95 J;have u:=G (nz c a);have w:=G (pp c a);have y:=G (show gq c=(mN c||fT c||c==95)from rfl);generalize mN c=l at*;generalize fT c=o at*;generalize (c==95)=d at*
 cases l<;>cases o<;>cases d;all_goals
  go_enter func107,ntmps107
  go_wp2_with (first
   |(go_at_call 108;refine u.out.mono ?_;rintro e w' ⟨rfl,rfl⟩)
   |(go_at_call 152;refine w.out.mono ?_;rintro e w' ⟨rfl,rfl⟩))
  go_ret;exact⟨fI (by rw[y.out];rfl),rfl⟩
theorem aZ (l:List UInt8):(Z l).size=l.length:=by
 show l.toArray.size=l.length;simp
theorem nV (l:List UInt8) (j:Nat) (a:j<(Z l).size):(Z l)[j]=l[j]'(by rw[<-aZ];exact a):=rfl
theorem fN (l:List UInt8) (a b:Nat):(Z l).extract a b=Z ((l.take b).drop a):=by
 apply mT;rw[ByteArray.data_extract];apply jF;show(l.toArray.extract a b).toList=((l.take b).drop a);rw[Array.toList_extract,List.drop_take]
theorem uE (p:UInt8->Bool) (fn:Nat) (y: ∀(c:UInt8) (a:World),Calls prog fn #[.int .u8 (c.toNat:Int)] a λe w'=>e=.returned (.bool (p c))/\a=w') (V:fn=107\/fn=152) (l:List UInt8) (H:l.length<=100000) (a:World):
  Calls prog 200 #[.string (Z l),.func (.func fn) #[] #[]] a λe w'=>e=.returned (.int .i64 (cN p l))/\a=w':=by
 have X:=G y;have aa:=aZ l;have I:=jK p l;clear y;rcases V with rfl|rfl;all_goals
  go_enter func200,ntmps200;go_wp2_with fail
  go_loop [5] (λw=> ∃j:Nat,w=.int .i64 j/\j<=cN p l) (λw=>l.length-(intOf w).toNat)
  case atStart=>exact⟨0,rfl,aD _⟩
  case round=>
   obtain⟨j,rfl,R⟩:=hrel;by_cases hlt:j<l.length
   ·have F:j<(Z l).size:=by rw[aZ];exact hlt
    have ad:=nV l j F;have o:=wN p hlt;have z:=qy p l j R;have u:=G (X.out l[j] a);have A:(j:Int)<l.length:=J
    generalize l[j]'hlt=c at*
    cases hp:p c with
    |true=>
     rw[hp,if_pos rfl]at o;have d:=G (show j+1<=cN p l by omega);rw[hp]at u;clear o z hp;go_wp2_with (refine u.out.mono ?_;rintro e w' ⟨rfl,rfl⟩)
     go_round
     case rel=>exact⟨j+1,by go_num,d.out⟩
     case measure=>simp[intOf];omega
    |false=>
     rw[hp,if_neg Qe]at o;have d:=G (show cN p l=j by omega);rw[hp]at u;clear o z hp;go_wp2_with (refine u.out.mono ?_;rintro e w' ⟨rfl,rfl⟩);go_ret;exact⟨ob (by rw[d.out]),rfl⟩
   ·have d:=G (show cN p l=j by omega);have A: ¬(j:Int)<l.length:=J
    go_wp2_with fail;go_ret;exact⟨ob (by rw[d.out]),rfl⟩
theorem EF (l:List UInt8):(zC l=true/\(l=[118,97,114]\/l=[102,117,110,99]\/l=[105,102]\/l=[101,108,115,101]\/l=[119,104,105,108,101]\/l=[114,101,116,117,114,110]))\/
  (zC l=false/\(l==[118,97,114])=false/\(l==[102,117,110,99])=false/\(l==[105,102])=false/\(l==[101,108,115,101])=false/\(l==[119,104,105,108,101])=false/\(l==[114,101,116,117,114,110])=false):=by
 cases h:zC l with
 |true=>
  refine .inl ⟨rfl,?_⟩;unfold zC JF at h;simpa using h
 |false=>
  refine .inr ⟨rfl,?_⟩;unfold zC JF at h;simp only[ib,Bool.or_eq_false_iff]at h;exact⟨h.1,h.2.1,h.2.2.1,h.2.2.2.1,h.2.2.2.2.1,h.2.2.2.2.2.1⟩
theorem pO (l:List UInt8) (d:World):Calls prog 109 #[.string (Z l)] d λe w'=>e=.returned (.bool (zC l))/\d=w':=by
 rcases EF l with⟨a,rfl|rfl|rfl|rfl|rfl|rfl⟩|⟨a,h1,h2,h3,h4,h5,h6⟩
 all_goals
  have o:=G a;clear a;go_enter func109,ntmps109;go_wp2_with fail;go_ret;exact⟨fI o.out.symm,rfl⟩
def kq:List (UInt8×UInt8):=[(110,10),(116,9),(48,0),(92,92),(39,39),(34,34)]
def j3:List (UInt8×UInt8)->UInt8->Option UInt8
 | [],_=>none
 |x::l,d=>if d=x.1 then some x.2 else j3 l d
theorem EU (a:UInt8):ma a=j3 kq a:=by unfold ma kq;simp only[j3]
theorem kn {d b:Int} {c a:Int} (o:d=b) (h:c=a):Ending.returned (.tuple #[.int .u8 d,.int .i64 c])=.returned (.tuple #[.int .u8 b,.int .i64 a]):=by rw[o,h]
theorem Ct (a:UInt8) (r:List UInt8) (af:World) (aj:r.length<=100000):
  Calls prog 202 #[.string (Z (92::a::r))] af λe w'=>e=.returned (.tuple #[.int .u8 ((cY (92::a::r)).1.toNat:Int),.int .i64 ((cY (92::a::r)).2:Int)])/\au af w':=by
 have ag:(Z (92::a::r)).size=r.length+2:=by rw[aZ];rfl
 have am:(0:Nat)<(Z (92::a::r)).size:=by rw[ag];omega
 have al:(1:Nat)<(Z (92::a::r)).size:=by rw[ag];omega
 have ao:(Z (92::a::r))[0]=92:=rfl;have an:(Z (92::a::r))[1]=a:=rfl;have ai:(1:Int)<(r.length:Int)+2:=J
 have aa:=G (EU a);go_enter func202,ntmps202;go_wp2_with fail
 go_loopw [4] (λX wr=>((X=.int .i64 1/\Hid (ma a=j3 (kq.drop 0) a))\/(X=.int .i64 3/\Hid (ma a=j3 (kq.drop 1) a))\/(X=.int .i64 5/\Hid (ma a=j3 (kq.drop 2) a))\/(X=.int .i64 7/\Hid (ma a=j3 (kq.drop 3) a))\/(X=.int .i64 9/\Hid (ma a=j3 (kq.drop 4) a))\/(X=.int .i64 11/\Hid (ma a=j3 (kq.drop 5) a))\/(X=.int .i64 13/\Hid (ma a=j3 (kq.drop 6) a)))/\Hid (au af wr)) (λX _=>14-(intOf X).toNat)
 case atStart=>exact⟨.inl ⟨rfl,G rfl⟩,G (aI af)⟩
 case round=>
  obtain⟨ah,A⟩:=hrel;rcases ah with⟨rfl,w⟩|⟨rfl,w⟩|⟨rfl,w⟩|⟨rfl,w⟩|⟨rfl,w⟩|⟨rfl,w⟩|⟨rfl,w⟩
  ·have H: ∀h,(⟨#[10,110,9,116,0,48,92,92,39,39,34,34]⟩:ByteArray)[1]'h=110:=λ_=>rfl;have I: ∀h,(⟨#[10,110,9,116,0,48,92,92,39,39,34,34]⟩:ByteArray)[0]'h=10:=λ_=>rfl;by_cases hd:a=110
   ·subst hd;have y:=G (show cY (92::110::r)=(10,2)from rfl);clear w aa;go_wp2_with fail;refine aB 5 1 [] mixed Qb trivial ?_;repeat (refine sx ?_ (λR o=> ?_) ?_;rotate_left;(focus clear o;go_simp<;>with_reducible rfl);simp only[bE,bD,bC,bB,bA])
    intro F d _;simp only[ae,aV];have u:=G (A.out.trans d.un);clear d;go_wp2_with fail;go_ret2;exact⟨kn (by rw[y.out];rfl) (by rw[y.out];rfl),u.out⟩
   ·have z:((a.toNat:Int)==110)=false:=(eG a 110 J).trans (Qn.2 hd);have ad:((110:Int)==(a.toNat:Int))=false:=by rw[Qn]at z⊢;exact λe=>z e.symm
    have V:=G (show ma a=j3 (kq.drop 1) a by rw[w.out];unfold kq;simp only[ae,aw,j3];rw[if_neg hd]);clear hd;go_wp2_with fail;refine aB 5 1 [] mixed Qb trivial ?_;repeat (refine sx ?_ (λR o=> ?_) ?_;rotate_left;(focus clear o;go_simp<;>with_reducible rfl);simp only[bE,bD,bC,bB,bA])
    intro F d _;simp only[ae,aV];have u:=G (A.out.trans d.un);clear d;go_wp2_with fail;go_roundw
    case rel=>exact⟨.inr (.inl ⟨rfl,V⟩),u⟩
    case measure=>simp[intOf]
  ·have H: ∀h,(⟨#[10,110,9,116,0,48,92,92,39,39,34,34]⟩:ByteArray)[3]'h=116:=λ_=>rfl;have I: ∀h,(⟨#[10,110,9,116,0,48,92,92,39,39,34,34]⟩:ByteArray)[2]'h=9:=λ_=>rfl;by_cases hd:a=116
   ·subst hd;have y:=G (show cY (92::116::r)=(9,2)from rfl);clear w aa;go_wp2_with fail;refine aB 5 1 [] mixed Qb trivial ?_;repeat (refine sx ?_ (λR o=> ?_) ?_;rotate_left;(focus clear o;go_simp<;>with_reducible rfl);simp only[bE,bD,bC,bB,bA])
    intro F d _;simp only[ae,aV];have u:=G (A.out.trans d.un);clear d;go_wp2_with fail;go_ret2;exact⟨kn (by rw[y.out];rfl) (by rw[y.out];rfl),u.out⟩
   ·have z:((a.toNat:Int)==116)=false:=(eG a 116 J).trans (Qn.2 hd);have ad:((116:Int)==(a.toNat:Int))=false:=by rw[Qn]at z⊢;exact λe=>z e.symm
    have V:=G (show ma a=j3 (kq.drop 2) a by rw[w.out];unfold kq;simp only[ae,aw,j3];rw[if_neg hd]);clear hd;go_wp2_with fail;refine aB 5 1 [] mixed Qb trivial ?_;repeat (refine sx ?_ (λR o=> ?_) ?_;rotate_left;(focus clear o;go_simp<;>with_reducible rfl);simp only[bE,bD,bC,bB,bA])
    intro F d _;simp only[ae,aV];have u:=G (A.out.trans d.un);clear d;go_wp2_with fail;go_roundw
    case rel=>exact⟨.inr (.inr (.inl ⟨rfl,V⟩)),u⟩
    case measure=>simp[intOf]
  ·have H: ∀h,(⟨#[10,110,9,116,0,48,92,92,39,39,34,34]⟩:ByteArray)[5]'h=48:=λ_=>rfl;have I: ∀h,(⟨#[10,110,9,116,0,48,92,92,39,39,34,34]⟩:ByteArray)[4]'h=0:=λ_=>rfl;by_cases hd:a=48
   ·subst hd;have y:=G (show cY (92::48::r)=(0,2)from rfl);clear w aa;go_wp2_with fail;refine aB 5 1 [] mixed Qb trivial ?_;repeat (refine sx ?_ (λR o=> ?_) ?_;rotate_left;(focus clear o;go_simp<;>with_reducible rfl);simp only[bE,bD,bC,bB,bA])
    intro F d _;simp only[ae,aV];have u:=G (A.out.trans d.un);clear d;go_wp2_with fail;go_ret2;exact⟨kn (by rw[y.out];rfl) (by rw[y.out];rfl),u.out⟩
   ·have z:((a.toNat:Int)==48)=false:=(eG a 48 J).trans (Qn.2 hd);have ad:((48:Int)==(a.toNat:Int))=false:=by rw[Qn]at z⊢;exact λe=>z e.symm
    have V:=G (show ma a=j3 (kq.drop 3) a by rw[w.out];unfold kq;simp only[ae,aw,j3];rw[if_neg hd]);clear hd;go_wp2_with fail;refine aB 5 1 [] mixed Qb trivial ?_;repeat (refine sx ?_ (λR o=> ?_) ?_;rotate_left;(focus clear o;go_simp<;>with_reducible rfl);simp only[bE,bD,bC,bB,bA])
    intro F d _;simp only[ae,aV];have u:=G (A.out.trans d.un);clear d;go_wp2_with fail;go_roundw
    case rel=>exact⟨.inr (.inr (.inr (.inl ⟨rfl,V⟩))),u⟩
    case measure=>simp[intOf]
  ·have H: ∀h,(⟨#[10,110,9,116,0,48,92,92,39,39,34,34]⟩:ByteArray)[7]'h=92:=λ_=>rfl;have I: ∀h,(⟨#[10,110,9,116,0,48,92,92,39,39,34,34]⟩:ByteArray)[6]'h=92:=λ_=>rfl;by_cases hd:a=92
   ·subst hd;have y:=G (show cY (92::92::r)=(92,2)from rfl);clear w aa;go_wp2_with fail;refine aB 5 1 [] mixed Qb trivial ?_;repeat (refine sx ?_ (λR o=> ?_) ?_;rotate_left;(focus clear o;go_simp<;>with_reducible rfl);simp only[bE,bD,bC,bB,bA])
    intro F d _;simp only[ae,aV];have u:=G (A.out.trans d.un);clear d;go_wp2_with fail;go_ret2;exact⟨kn (by rw[y.out];rfl) (by rw[y.out];rfl),u.out⟩
   ·have z:((a.toNat:Int)==92)=false:=(eG a 92 J).trans (Qn.2 hd);have ad:((92:Int)==(a.toNat:Int))=false:=by rw[Qn]at z⊢;exact λe=>z e.symm
    have V:=G (show ma a=j3 (kq.drop 4) a by rw[w.out];unfold kq;simp only[ae,aw,j3];rw[if_neg hd]);clear hd;go_wp2_with fail;refine aB 5 1 [] mixed Qb trivial ?_;repeat (refine sx ?_ (λR o=> ?_) ?_;rotate_left;(focus clear o;go_simp<;>with_reducible rfl);simp only[bE,bD,bC,bB,bA])
    intro F d _;simp only[ae,aV];have u:=G (A.out.trans d.un);clear d;go_wp2_with fail;go_roundw
    case rel=>exact⟨.inr (.inr (.inr (.inr (.inl ⟨rfl,V⟩)))),u⟩
    case measure=>simp[intOf]
  ·have H: ∀h,(⟨#[10,110,9,116,0,48,92,92,39,39,34,34]⟩:ByteArray)[9]'h=39:=λ_=>rfl;have I: ∀h,(⟨#[10,110,9,116,0,48,92,92,39,39,34,34]⟩:ByteArray)[8]'h=39:=λ_=>rfl;by_cases hd:a=39
   ·subst hd;have y:=G (show cY (92::39::r)=(39,2)from rfl);clear w aa;go_wp2_with fail;refine aB 5 1 [] mixed Qb trivial ?_;repeat (refine sx ?_ (λR o=> ?_) ?_;rotate_left;(focus clear o;go_simp<;>with_reducible rfl);simp only[bE,bD,bC,bB,bA])
    intro F d _;simp only[ae,aV];have u:=G (A.out.trans d.un);clear d;go_wp2_with fail;go_ret2;exact⟨kn (by rw[y.out];rfl) (by rw[y.out];rfl),u.out⟩
   ·have z:((a.toNat:Int)==39)=false:=(eG a 39 J).trans (Qn.2 hd);have ad:((39:Int)==(a.toNat:Int))=false:=by rw[Qn]at z⊢;exact λe=>z e.symm
    have V:=G (show ma a=j3 (kq.drop 5) a by rw[w.out];unfold kq;simp only[ae,aw,j3];rw[if_neg hd]);clear hd;go_wp2_with fail;refine aB 5 1 [] mixed Qb trivial ?_;repeat (refine sx ?_ (λR o=> ?_) ?_;rotate_left;(focus clear o;go_simp<;>with_reducible rfl);simp only[bE,bD,bC,bB,bA])
    intro F d _;simp only[ae,aV];have u:=G (A.out.trans d.un);clear d;go_wp2_with fail;go_roundw
    case rel=>exact⟨.inr (.inr (.inr (.inr (.inr (.inl ⟨rfl,V⟩))))),u⟩
    case measure=>simp[intOf]
  ·have H: ∀h,(⟨#[10,110,9,116,0,48,92,92,39,39,34,34]⟩:ByteArray)[11]'h=34:=λ_=>rfl;have I: ∀h,(⟨#[10,110,9,116,0,48,92,92,39,39,34,34]⟩:ByteArray)[10]'h=34:=λ_=>rfl;by_cases hd:a=34
   ·subst hd;have y:=G (show cY (92::34::r)=(34,2)from rfl);clear w aa;go_wp2_with fail;refine aB 5 1 [] mixed Qb trivial ?_;repeat (refine sx ?_ (λR o=> ?_) ?_;rotate_left;(focus clear o;go_simp<;>with_reducible rfl);simp only[bE,bD,bC,bB,bA])
    intro F d _;simp only[ae,aV];have u:=G (A.out.trans d.un);clear d;go_wp2_with fail;go_ret2;exact⟨kn (by rw[y.out];rfl) (by rw[y.out];rfl),u.out⟩
   ·have z:((a.toNat:Int)==34)=false:=(eG a 34 J).trans (Qn.2 hd);have ad:((34:Int)==(a.toNat:Int))=false:=by rw[Qn]at z⊢;exact λe=>z e.symm
    have V:=G (show ma a=j3 (kq.drop 6) a by rw[w.out];unfold kq;simp only[ae,aw,j3];rw[if_neg hd]);clear hd;go_wp2_with fail;refine aB 5 1 [] mixed Qb trivial ?_;repeat (refine sx ?_ (λR o=> ?_) ?_;rotate_left;(focus clear o;go_simp<;>with_reducible rfl);simp only[bE,bD,bC,bB,bA])
    intro F d _;simp only[ae,aV];have u:=G (A.out.trans d.un);clear d;go_wp2_with fail;go_roundw
    case rel=>exact⟨.inr (.inr (.inr (.inr (.inr (.inr (⟨rfl,V⟩)))))),u⟩
    case measure=>simp[intOf]
  ·have y:=G (show cY (92::a::r)=(0,0) by have h:ma a=none:=w.out;simp[cY,h]);clear w aa;go_wp2_with fail;go_ret2;exact⟨kn (by rw[y.out];rfl) (by rw[y.out];rfl),A.out⟩
theorem vD (l:List UInt8) (a:World) (A:l.length<=100000):
  Calls prog 202 #[.string (Z l)] a λe w'=>e=.returned (.tuple #[.int .u8 ((cY l).1.toNat:Int),.int .i64 ((cY l).2:Int)])/\au a w':=by
 match l with
 | []=>
  go_enter func202,ntmps202;go_wp2_with fail;go_ret2;exact⟨rfl,aI a⟩
 |c::r=>
  have z:(Z (c::r)).size=r.length+1:=by rw[aZ];rfl
  have aa:(0:Nat)<(Z (c::r)).size:=by rw[z];omega
  have I:(Z (c::r))[0]=c:=rfl;by_cases h1:c.toNat<32
  ·have o:=G (show cY (c::r)=(0,0) by simp[cY,h1]);have u:(c.toNat:Int)<32:=J
   go_enter func202,ntmps202;go_wp2_with fail;go_ret2;exact⟨kn (by rw[o.out];rfl) (by rw[o.out];rfl),aI a⟩
  by_cases h2:126<c.toNat
  ·have o:=G (show cY (c::r)=(0,0) by simp[cY,h2]);have u: ¬(c.toNat:Int)<32:=J
   have y:(126:Int)<c.toNat:=J
   go_enter func202,ntmps202;go_wp2_with fail;go_ret2;exact⟨kn (by rw[o.out];rfl) (by rw[o.out];rfl),aI a⟩
  have u:decide ((c.toNat:Int)<32)=false:=Qg
  have y:decide ((126:Int)<c.toNat)=false:=Qg
  by_cases h3:c=92
  ·subst h3
   match r with
   | []=>
    clear u y;go_enter func202,ntmps202;go_wp2_with fail
    go_loopw [4] (λw wr=>w=.int .i64 1/\wr=a) (λw _=>0)
    case atStart=>exact⟨rfl,rfl⟩
    case round=>
     obtain⟨rfl,rfl⟩:=hrel;go_wp2_with fail;go_ret2;exact⟨rfl,aI _⟩
   |d::r'=>exact Ct d r' a (by simp at A;omega)
  ·have o:=G (show cY (c::r)=(c,1) by simp only[cY];rw[if_neg J,if_pos h3]);have X:((c.toNat:Int) !=92)=true:=by
    have F:((c.toNat:Int)==92)=false:=(eG c 92 J).trans (Qn.2 h3);rw[bne,F];rfl
   have V: ¬(c.toNat:Int)<32:=J
   have R: ¬(126:Int)<c.toNat:=J
   clear h3;go_enter func202,ntmps202;go_wp2_with fail;go_ret2;exact⟨kn (by rw[o.out]) (by rw[o.out];rfl),aI a⟩
def aa:=@au.alloc
def aq:=@aO.new
def ep:=@Sl.none_
def eR:=@au.drew
def mq:=@aO.drew
def ry:=@aO.lt
end
end Go.Proofs.YtoedmpgicdekmaaGreatDoor
