/- Parts of the proof. -/
import Derived.WalkKit
import Derived.WalkSpells
import Derived.WalkLawsBesides
import Derived.Maps.AppendAt
import Derived.OwnWalk
import Derived.Laws.IdiomStrings
import Derived.Laws.MakeOwn
import Derived.Test.YtoedmpgicdekmaaGreatDoorCl01
import Derived.Test.YtoedmpgicdekmaaGreatDoorCl00
set_option maxRecDepth 100000
set_option maxHeartbeats 8000000
set_option linter.unusedVariables false
set_option linter.unusedSimpArgs false
set_option linter.defProp false
set_option linter.unusedSectionVars false
namespace Go.Proofs.YtoedmpgicdekmaaGreatDoor
open Go.Proofs.Tryz
section
open Go.RowKit
theorem au.alloc (w:World) (a:Obj):au w (w.alloc a):=(Below.refl _ _).alloc (ah _) a
theorem au.alloc' {d w:World} (h:au d w) (a:Obj):au d (w.alloc a):=h.trans (au.alloc w a)
theorem au.drew {a w:World} (d:au a w):au a w.drew:=Below.drew d
theorem au.set {a w:World} (o:au a w) {p:Addr} (h:a.heap.size<=p.block) (d:Value):au a (w.setCell p d):=Below.setCell o h d
theorem au.grown {a w w':World} {row:Option Nat} (d:au a w) (o:w.grownBy w' row) (h: ∀k,row=some k->a.heap.size<=k):au a w':=Below.grown d o d.size h
theorem au.cell {w w':World} (h:au w w'): ∀b a,b<w.heap.size->w'.cell? ⟨b,a,none⟩=w.cell? ⟨b,a,none⟩:=λb a d=>Below.cell h (p:=⟨b,a,none⟩) d
theorem G {p:Prop} (a:p):Hid p:=a
def qQ (b:UInt8):Value:= .int .u8 (b.toNat:Int)
def im (l:List UInt8):List Value:=l.map qQ
theorem jA (l:List UInt8):(im l).length=l.length:=by simp[im]
structure Sl (w:World) (A:Option Addr) (cap:Nat) (l:List UInt8):Prop where
 le:l.length<=cap
 max:cap<=maxLen
 nil:A=none->cap=0
 rd:l=[]\/ ∃b off,A=some ⟨b,off,none⟩/\b<w.heap.size/\ ∀i,(h:i<l.length)->w.cell? ⟨b,off+i,none⟩=some (.int .u8 (l[i].toNat:Int))
theorem Sl.none_ (w:World):Sl w none 0 []:=⟨by simp,by simp[maxLen],λ_=>rfl, .inl rfl⟩
theorem Sl.ext {w w':World} {u:Option Addr} {o:Nat} {l:List UInt8} (a:Sl w u o l) (d:au w w'):Sl w' u o l:=
 ⟨a.le,a.max,a.nil,a.rd.imp id fun⟨b,off,ha,h,z⟩=>⟨b,off,ha,aA h d.size,λi y=>(d.cell b _ h).trans (z i y)⟩⟩
def gT (w:World) (base:Nat) (e:TypeId) (v:Value) (l:List UInt8):Prop:=w.ownsRow base e 1 v l.length (im l)
theorem gT.sl {w:World} {base:Nat} {e:TypeId} {A:Option Addr} {n z:Nat} {l:List UInt8} (h:gT w base e (.slice A n z) l):n=l.length/\Sl w A z l:=by
 obtain⟨I,H⟩:=h;rcases H with⟨a,F⟩|⟨g,c,cur,a,hb,hg,hnc,hcm,hcs,ht⟩
 ·injection a with y u o;subst y u o;have:l=[]:=aX F;subst this;exact⟨rfl,Sl.none_ w⟩
 ·injection a with y u o;subst y u o;refine⟨rfl,hnc,hcm,(λh=>by cases h), .inr ⟨g,0,rfl,(Array.getElem?_eq_some_iff.1 hg).1,λi G=> ?_⟩⟩;rw[aE,cell_of_row w g i cur e (0,0) hg];have d:(im l)[i]? =some (qQ l[i]):=by simp[im,G]
  rw[<-ht,b_]at d;rw[if_pos Qa]at d;simpa[qQ]using d
structure lU (P:Program) (t e:TypeId):Prop where
 under:P.underlying t=some (.slice e)
 info:(P.info? e).map (λi=>(i.zero,i.size,i.bytes))=some (some (.int .u8 0),1,1)
section
variable {P:Program} {w:World}
theorem gT.form {base:Nat} {e:TypeId} {v:Value} {l:List UInt8} (h:gT w base e v l): ∃o a,v= .slice o l.length a:=by
 rcases h.2 with⟨rfl,d⟩|⟨g,a,cur,rfl,_⟩
 ·exact⟨none,0,by rw[d]⟩
 ·exact⟨_,_,rfl⟩
theorem oX {t e:TypeId} (o:lU P t e) (ty:TypeId) (base:Nat) (v:Value) (l:List UInt8) (h:gT w base e v l) (u:Option Addr) (d:Nat) (m:List UInt8) (X:Sl w u d m)
  (af:l.length+m.length<=70368744177664) (ae:base<=w.heap.size):
  ∃a cap' w',(Builtin.append_ #[t,t] ty #[v, .slice u m.length d]).run P w= .ok (.slice a (l.length+m.length) cap') w'/\gT w' base e (.slice a (l.length+m.length) cap') (l++m)/\w.grownBy w' v.ownBlock/\
   (Value.ownBlock (.slice a (l.length+m.length) cap')=v.ownBlock\/Value.ownBlock (.slice a (l.length+m.length) cap')=some w.heap.size):=by
 obtain⟨i,z,V,R,M⟩:=info_parts o.info;have K: ∀v' w',(Builtin.append_ #[t,t] ty #[v, .slice u m.length d]).run P w= .ok v' w'->w'.ownsRow base e 1 v' (l.length+m.length) (im l++im m)->w.grownBy w' v.ownBlock->(v'.ownBlock=v.ownBlock\/v'.ownBlock=some w.heap.size)->
   ∃a cap' w',(Builtin.append_ #[t,t] ty #[v, .slice u m.length d]).run P w= .ok (.slice a (l.length+m.length) cap') w'/\gT w' base e (.slice a (l.length+m.length) cap') (l++m)/\w.grownBy w' v.ownBlock/\
    (Value.ownBlock (.slice a (l.length+m.length) cap')=v.ownBlock\/Value.ownBlock (.slice a (l.length+m.length) cap')=some w.heap.size):=by
  intro v' w' Z ag ai ab;have G:gT w' base e v' (l++m):=by unfold gT;rw[ac];simpa[im]using ag
  obtain⟨a,cap',rfl⟩:=G.form;rw[ac]at Z G ab;exact⟨a,cap',w',Z,G,ai,ab⟩
 have aj: ∀A∈im m,A.oneCell'=true:=λA y=>by
  obtain⟨b,_,rfl⟩:=List.mem_map.1 y;rfl
 rcases X.rd with rfl|⟨b,off,rfl,_,hc⟩
 ·rcases u with _|ad
  ·obtain rfl:d=0:=X.nil rfl;refine K v w ?_ (by unfold gT at h;simpa[im]using h) (World.grownBy.refl w _) (.inl rfl);rcases h.2 with⟨rfl,ah⟩|⟨g,c,cur,rfl,_,_,hnc,_⟩
   ·have:l=[]:=aX ah;subst this;simp[Builtin.append_,run_underlying o.under,sizeOf,typeInfo,z,Builtin.lenOf,Builtin.firstCells]
   ·simp[Builtin.append_,run_underlying o.under,sizeOf,typeInfo,z,Builtin.lenOf,Builtin.firstCells,hnc,storeCells]
  ·obtain⟨v',w',F,J,I,_,H⟩:=run_append_own_at (P:=P) w base t ty e i (.int .u8 0) 1 1 o.under z V R M rfl Qd v l.length (im l) h ad 0 d [] Qe Qe Qe (by simp only[maxLen];simp at af;omega) (by simp at af;omega) ae;exact K v' w' F (by simpa[im]using J) I H
 ·obtain⟨v',w',F,J,I,_,H⟩:=run_append_own_at (P:=P) w base t ty e i (.int .u8 0) 1 1 o.under z V R M rfl Qd v l.length (im l) h ⟨b,off,none⟩ m.length d (im m) (by simp[im]) (λj A y=>by
    have aa:j<m.length:=by have:=(List.getElem?_eq_some_iff.1 y).1;simpa[im]using this
    rw[Addr.add_lit,hc j aa,<-y]
    simp[im,qQ,aa]) aj Qh Qa ae
  exact K v' w' F J I H
theorem eF {ops:Array Oper} {rest:List Oper} {d:Oper} {h:Act} {Q:Exit->Act->World->Prop} {t e:TypeId} (M:lU P t e) (I:d.guard=none) (s x:Operand)
  (H:d.op= .call {callee:= .builtin .append,args:= #[s,x],argTypes:= #[t,t]}) (base:Nat) (v:Value) (l:List UInt8) (z:h.eval s=v) (G:gT w base e v l)
  (u:Option Addr) (o:Nat) (m:List UInt8) (y:h.eval x= .slice u m.length o) (A:Sl w u o m) (K:l.length+m.length<=70368744177664) (J:base<=w.heap.size)
  (aa: ∀a cap' w',gT w' base e (.slice a (l.length+m.length) cap') (l++m)->w.grownBy w' v.ownBlock->
   (Value.ownBlock (.slice a (l.length+m.length) cap')=v.ownBlock\/Value.ownBlock (.slice a (l.length+m.length) cap')=some w.heap.size)->wpList P ops Q rest (h.put d.dst (.slice a (l.length+m.length) cap')) w'):
  wpList P ops Q (d::rest) h w:=by
 obtain⟨a,cap',w',F,Z,X,V⟩:=oX (P:=P) (w:=w) M d.type base v l G u o m A K J;refine wpList_plain I λab R=> ?_;unfold Oper.wp execOp;simp only[H,resolve,invoke,builtin,Sem.run_bind,Sem.run_pure,Result.andThen_ok,dt,b7,du,z,y,F];exact R _ _ (aa a cap' w' Z X V)
end
theorem gT.nil_ (w:World) (base:Nat) (e:TypeId):gT w base e (.slice none 0 0) []:=World.ownsRow_nil w base e 1
def ak (l:List UInt8):ByteArray:=⟨l.toArray⟩
@[simp] theorem FE (l:List UInt8):(ak l).toList=l:=by simp[ak]
theorem Sl.convert {P:Program} {src dst e:TypeId} {w:World} {d:Option Addr} {a:Nat} {l:List UInt8} (h:P.underlying src=some (.slice e)) (o:P.underlying e=some (.int .u8)) (u:P.underlying dst=some .string) (z:Sl w d a l):
  (Go.convert src dst (.slice d l.length a)).run P w= .ok (.string (ak l)) w:=by
 rcases z.rd with rfl|⟨b,off,rfl,_,hc⟩
 ·rw[run_convert_bytes_string w src dst e d _ a h o u]
  cases d<;>simp[Conv.bytesToString,loadCells,loadCellsFrom]<;>rfl
 ·exact run_convert_bytes_back w src dst e ⟨b,off,none⟩ a l h o u (λj y=>by rw[Addr.add_lit];exact hc j y)
theorem gT.grown {w w':World} {base:Nat} {e:TypeId} {v:Value} {l:List UInt8} {row:Option Nat} (h:gT w base e v l) (d:w.grownBy w' row) (a:v.ownBlock=none\/v.ownBlock≠row):gT w' base e v l:=World.ownsRow.kept h d a
theorem gT.ext {w w':World} {base:Nat} {e:TypeId} {v:Value} {l:List UInt8} (d:gT w base e v l) (a:au w w'):gT w' base e v l:=d.grown (a.grownBy none) (by cases v.ownBlock<;>simp)
def aM (w:World) (g:Nat) (t:TypeId) (cs:Array Value):Prop:=w.heap[g]? =some (.cells cs t (0,0))
section
variable {w w':World} {g:Nat} {t:TypeId} {cs:Array Value}
theorem aM.lt (a:aM w g t cs):g<w.heap.size:=(Array.getElem?_eq_some_iff.1 a).1
theorem aM.cell (a:aM w g t cs) (i:Nat):w.cell? ⟨g,i,none⟩=cs[i]? :=cell_of_row w g i cs t (0,0) a
theorem aM.frozen (a:aM w g t cs) (i:Nat):w.frozen? ⟨g,i,none⟩=false:=by unfold aM at a;simp[World.frozen?,a]
theorem aM.new (w:World) (t:TypeId) (cs:Array Value):aM (w.alloc (.cells cs t)) w.heap.size t cs:=heap_alloc_new w _
theorem aM.drew (a:aM w g t cs):aM w.drew g t cs:=a
theorem aM.alloc (d:aM w g t cs) (a:Obj):aM (w.alloc a) g t cs:=(Below.heap_alloc w a g d.lt).trans d
theorem aM.set (d:aM w g t cs) (i:Nat) (a:Value):aM (w.setCell ⟨g,i,none⟩ a) g t (cs.setIfInBounds i a):=by
 unfold aM at d⊢;simp[World.setCell,Array.getElem?_modify,d]
theorem aM.far (h:aM w g t cs) {p:Addr} (d:g≠p.block) (a:Value):aM (w.setCell p a) g t cs:=(Below.heap_setCell w p a g d).trans h
theorem aM.ext (a:aM w g t cs) (d:au w w'):aM w' g t cs:=(d.obj a.lt).trans a
theorem aM.grown {row:Option Nat} (a:aM w g t cs) (h:w.grownBy w' row) (d:some g≠row):aM w' g t cs:=(h.block g a.lt d).trans a
end
theorem mixed:prog.follows .mixedOrders=true:=Qb
theorem fq {a b:Bool} (d:a=b):Ending.returned (.bool a)= .returned (.bool b):=by rw[d]
theorem nt {k:IntKind} {a b:Int} (d:a=b):Ending.returned (.int k a)= .returned (.int k b):=by rw[d]
theorem Hg (x d:UInt8):bits .or .u8 (x.toNat:Int) (d.toNat:Int)=((x|||d).toNat:Int):=by
 show IntKind.u8.wrap ((BitVec.ofInt 8 (x.toNat:Int)|||BitVec.ofInt 8 (d.toNat:Int)).toNat:Int)=_;have e: ∀a:UInt8,BitVec.ofInt 8 (a.toNat:Int)=a.toBitVec:=λa=>by
  rw[BitVec.ofInt_natCast];exact BitVec.eq_of_toNat_eq Qe
 rw[e,e,<-UInt8.toBitVec_or];generalize x|||d=a;have h:=a.toNat_lt;show IntKind.u8.wrap (a.toNat:Int)=(a.toNat:Int);simp only[IntKind.wrap,IntKind.signed,IntKind.bits];simp;omega
theorem mP (c:UInt8) (w:World):Calls prog 108 #[.int .u8 (c.toNat:Int)] w λe w'=>e= .returned (.bool (mo c))/\w=w':=by
 have y:=Hg c 32;have e:((32:UInt8).toNat:Int)=32:=rfl;rw[e]at y;have d:=G (show mo c=decide (97<=(c|||32).toNat/\(c|||32).toNat<=122)from rfl);generalize (c|||32)=q at*;clear e;by_cases h1:97<=q.toNat
 ·by_cases h2:q.toNat<=122
  ·have a:=G (show mo c=true by rw[d.out];simp[h1,h2]);have o:(97:Int)<=q.toNat:=Qa
   have u:(q.toNat:Int)<=122:=Qa
   go_enter func108,ntmps108;go_wp2;go_ret;exact⟨fq a.out.symm,rfl⟩
  ·have a:=G (show mo c=false by rw[d.out];simp[h1,h2]);have o:(97:Int)<=q.toNat:=Qa
   have u: ¬(q.toNat:Int)<=122:=Qa
   go_enter func108,ntmps108;go_wp2;go_ret;exact⟨fq a.out.symm,rfl⟩
 ·have a:=G (show mo c=false by rw[d.out];simp[h1]);have o: ¬(97:Int)<=q.toNat:=Qa
  go_enter func108,ntmps108;go_wp2;go_ret;exact⟨fq a.out.symm,rfl⟩
theorem oH (c:UInt8) (w:World):Calls prog 152 #[.int .u8 (c.toNat:Int)] w λe w'=>e= .returned (.bool (fF c))/\w=w':=by
 have d:=G (show fF c=decide (48<=c.toNat/\c.toNat<=57)from rfl);by_cases h1:48<=c.toNat
 ·by_cases h2:c.toNat<=57
  ·have a:=G (show fF c=true by rw[d.out];simp[h1,h2]);have o:(48:Int)<=c.toNat:=Qa
   have u:(c.toNat:Int)<=57:=Qa
   go_enter func152,ntmps152;go_wp2;go_ret;exact⟨fq a.out.symm,rfl⟩
  ·have a:=G (show fF c=false by rw[d.out];simp[h1,h2]);have o:(48:Int)<=c.toNat:=Qa
   have u: ¬(c.toNat:Int)<=57:=Qa
   go_enter func152,ntmps152;go_wp2;go_ret;exact⟨fq a.out.symm,rfl⟩
 ·have a:=G (show fF c=false by rw[d.out];simp[h1]);have o: ¬(48:Int)<=c.toNat:=Qa
  go_enter func152,ntmps152;go_wp2;go_ret;exact⟨fq a.out.symm,rfl⟩
theorem ep (a:UInt8) (n:Nat) (o:n<256):((a.toNat:Int)==(n:Int))=(a==UInt8.ofNat n):=by
 by_cases h:a=UInt8.ofNat n
 ·subst h;have:(UInt8.ofNat n).toNat=n:=by rw[eC];omega
  rw[this];simp
 ·have d:(a.toNat:Int)≠(n:Int):=λe=>h (UInt8.toNat_inj.1 (by rw[eC];omega));rw[Qn.2 h,Qn.2 d]
theorem nA (c:UInt8) (w:World):Calls prog 107 #[.int .u8 (c.toNat:Int)] w λe w'=>e= .returned (.bool (fV c))/\w=w':=by
 have z:((c.toNat:Int)==95)=(c==95):=ep c 95 Qa;have o:=G (mP c w);have u:=G (oH c w);have y:=G (show fV c=(mo c||fF c||c==95)from rfl);generalize mo c=l at*;generalize fF c=d at*;generalize (c==95)=a at*
 cases l<;>cases d<;>cases a;all_goals
  go_enter func107,ntmps107
  go_wp2_with (first
   |(go_at_call 108;refine o.out.mono ?_;rintro e w' ⟨rfl,rfl⟩)
   |(go_at_call 152;refine u.out.mono ?_;rintro e w' ⟨rfl,rfl⟩))
  go_ret;exact⟨fq (by rw[y.out];rfl),rfl⟩
theorem a7 (l:List UInt8):(ak l).size=l.length:=by
 show l.toArray.size=l.length;simp
theorem nc (l:List UInt8) (j:Nat) (a:j<(ak l).size):(ak l)[j]=l[j]'(by rw[<-a7];exact a):=rfl
theorem fy (l:List UInt8) (a b:Nat):(ak l).extract a b=ak ((l.take b).drop a):=by
 apply mt;rw[ByteArray.data_extract];apply jn;show(l.toArray.extract a b).toList=((l.take b).drop a);rw[Array.toList_extract,List.drop_take]
theorem t8 (p:UInt8->Bool) (fn:Nat) (y: ∀(c:UInt8) (w:World),Calls prog fn #[.int .u8 (c.toNat:Int)] w λe w'=>e= .returned (.bool (p c))/\w=w') (I:fn=107\/fn=152) (l:List UInt8) (R:l.length<=100000) (w:World):
  Calls prog 200 #[.string (ak l), .func (.func fn) #[] #[]] w λe w'=>e= .returned (.int .i64 (cJ p l))/\w=w':=by
 have J:=G y;have K:=a7 l;have M:=jr p l;clear y;rcases I with rfl|rfl;all_goals
  go_enter func200,ntmps200;go_wp2_with fail
  go_loop [5] (λu=> ∃j:Nat,u= .int .i64 j/\j<=cJ p l) (λu=>l.length-(intOf u).toNat)
  case atStart=>exact⟨0,rfl,aD _⟩
  case round=>
   obtain⟨j,rfl,H⟩:=hrel;by_cases hlt:j<l.length
   ·have F:j<(ak l).size:=by rw[a7];exact hlt
    have V:=nc l j F;have d:=vU p hlt;have z:=p8 p l j H;have o:=G (J.out l[j] w);have A:(j:Int)<l.length:=Qa
    generalize l[j]'hlt=c at*
    cases hp:p c with
    |true=>
     rw[hp,if_pos rfl]at d;have a:=G (show j+1<=cJ p l by omega);rw[hp]at o;clear d z hp;go_wp2_with (refine o.out.mono ?_;rintro e w' ⟨rfl,rfl⟩)
     go_round
     case rel=>exact⟨j+1,by go_num,a.out⟩
     case measure=>simp[intOf];omega
    |false=>
     rw[hp,if_neg Qe]at d;have a:=G (show cJ p l=j by omega);rw[hp]at o;clear d z hp;go_wp2_with (refine o.out.mono ?_;rintro e w' ⟨rfl,rfl⟩);go_ret;exact⟨nt (by rw[a.out]),rfl⟩
   ·have a:=G (show cJ p l=j by omega);have A: ¬(j:Int)<l.length:=Qa
    go_wp2_with fail;go_ret;exact⟨nt (by rw[a.out]),rfl⟩
theorem DN (l:List UInt8):(yO l=true/\(l=[118,97,114]\/l=[102,117,110,99]\/l=[105,102]\/l=[101,108,115,101]\/l=[119,104,105,108,101]\/l=[114,101,116,117,114,110]))\/
  (yO l=false/\(l==[118,97,114])=false/\(l==[102,117,110,99])=false/\(l==[105,102])=false/\(l==[101,108,115,101])=false/\(l==[119,104,105,108,101])=false/\(l==[114,101,116,117,114,110])=false):=by
 cases h:yO l with
 |true=>
  refine .inl ⟨rfl,?_⟩;unfold yO Jm at h;simpa using h
 |false=>
  refine .inr ⟨rfl,?_⟩;unfold yO Jm at h;simp only[gJ,Bool.or_eq_false_iff]at h;exact⟨h.1,h.2.1,h.2.2.1,h.2.2.2.1,h.2.2.2.2.1,h.2.2.2.2.2.1⟩
theorem o_ (l:List UInt8) (w:World):Calls prog 109 #[.string (ak l)] w λe w'=>e= .returned (.bool (yO l))/\w=w':=by
 rcases DN l with⟨a,rfl|rfl|rfl|rfl|rfl|rfl⟩|⟨a,h1,h2,h3,h4,h5,h6⟩
 all_goals
  have d:=G a;clear a;go_enter func109,ntmps109;go_wp2_with fail;go_ret;exact⟨fq d.out.symm,rfl⟩
def j3:List (UInt8×UInt8):=[(110,10),(116,9),(48,0),(92,92),(39,39),(34,34)]
def jH:List (UInt8×UInt8)->UInt8->Option UInt8
 | [],_=>none
 |x::l,d=>if d=x.1 then some x.2 else jH l d
theorem DY (a:UInt8):lN a=jH j3 a:=by unfold lN j3;simp only[jH]
theorem jY {d b:Int} {c a:Int} (o:d=b) (h:c=a):Ending.returned (.tuple #[.int .u8 d, .int .i64 c])= .returned (.tuple #[.int .u8 b, .int .i64 a]):=by rw[o,h]
theorem BE (a:UInt8) (r:List UInt8) (w:World) (ac:r.length<=100000):
  Calls prog 202 #[.string (ak (92::a::r))] w λe w'=>e= .returned (.tuple #[.int .u8 ((cW (92::a::r)).1.toNat:Int), .int .i64 ((cW (92::a::r)).2:Int)])/\au w w':=by
 have Z:(ak (92::a::r)).size=r.length+2:=by rw[a7];rfl
 have af:(0:Nat)<(ak (92::a::r)).size:=by rw[Z];omega
 have ad:(1:Nat)<(ak (92::a::r)).size:=by rw[Z];omega
 have ah:(ak (92::a::r))[0]=92:=rfl;have ag:(ak (92::a::r))[1]=a:=rfl;have ab:(1:Int)<(r.length:Int)+2:=Qa
 have M:=G (DY a);go_enter func202,ntmps202;go_wp2_with fail
 go_loopw [4] (λK wr=>((K= .int .i64 1/\Hid (lN a=jH (j3.drop 0) a))\/(K= .int .i64 3/\Hid (lN a=jH (j3.drop 1) a))\/(K= .int .i64 5/\Hid (lN a=jH (j3.drop 2) a))\/(K= .int .i64 7/\Hid (lN a=jH (j3.drop 3) a))\/(K= .int .i64 9/\Hid (lN a=jH (j3.drop 4) a))\/(K= .int .i64 11/\Hid (lN a=jH (j3.drop 5) a))\/(K= .int .i64 13/\Hid (lN a=jH (j3.drop 6) a)))/\Hid (au w wr)) (λK _=>14-(intOf K).toNat)
 case atStart=>exact⟨.inl ⟨rfl,G rfl⟩,G (aG w)⟩
 case round=>
  obtain⟨aa,F⟩:=hrel;rcases aa with⟨rfl,y⟩|⟨rfl,y⟩|⟨rfl,y⟩|⟨rfl,y⟩|⟨rfl,y⟩|⟨rfl,y⟩|⟨rfl,y⟩
  ·have V: ∀h,(⟨#[10,110,9,116,0,48,92,92,39,39,34,34]⟩:ByteArray)[1]'h=110:=λ_=>rfl;have R: ∀h,(⟨#[10,110,9,116,0,48,92,92,39,39,34,34]⟩:ByteArray)[0]'h=10:=λ_=>rfl;by_cases hd:a=110
   ·subst hd;have z:=G (show cW (92::110::r)=(10,2)from rfl);clear y M;go_wp2_with fail;refine aB 5 1 [] mixed Qb trivial ?_;repeat (refine sx ?_ (λI o=> ?_) ?_;rotate_left;(focus clear o;go_simp<;>with_reducible rfl);simp only[bA,bx,bw,br,bo])
    intro H d _;simp only[ae,aU];have u:=G (F.out.trans d.un);clear d;go_wp2_with fail;go_ret2;exact⟨jY (by rw[z.out];rfl) (by rw[z.out];rfl),u.out⟩
   ·have A:((a.toNat:Int)==110)=false:=(ep a 110 Qa).trans (Qn.2 hd);have X:((110:Int)==(a.toNat:Int))=false:=by rw[Qn]at A⊢;exact λe=>A e.symm
    have J:=G (show lN a=jH (j3.drop 1) a by rw[y.out];unfold j3;simp only[ae,aw,jH];rw[if_neg hd]);clear hd;go_wp2_with fail;refine aB 5 1 [] mixed Qb trivial ?_;repeat (refine sx ?_ (λI o=> ?_) ?_;rotate_left;(focus clear o;go_simp<;>with_reducible rfl);simp only[bA,bx,bw,br,bo])
    intro H d _;simp only[ae,aU];have u:=G (F.out.trans d.un);clear d;go_wp2_with fail;go_roundw
    case rel=>exact⟨.inr (.inl ⟨rfl,J⟩),u⟩
    case measure=>simp[intOf]
  ·have V: ∀h,(⟨#[10,110,9,116,0,48,92,92,39,39,34,34]⟩:ByteArray)[3]'h=116:=λ_=>rfl;have R: ∀h,(⟨#[10,110,9,116,0,48,92,92,39,39,34,34]⟩:ByteArray)[2]'h=9:=λ_=>rfl;by_cases hd:a=116
   ·subst hd;have z:=G (show cW (92::116::r)=(9,2)from rfl);clear y M;go_wp2_with fail;refine aB 5 1 [] mixed Qb trivial ?_;repeat (refine sx ?_ (λI o=> ?_) ?_;rotate_left;(focus clear o;go_simp<;>with_reducible rfl);simp only[bA,bx,bw,br,bo])
    intro H d _;simp only[ae,aU];have u:=G (F.out.trans d.un);clear d;go_wp2_with fail;go_ret2;exact⟨jY (by rw[z.out];rfl) (by rw[z.out];rfl),u.out⟩
   ·have A:((a.toNat:Int)==116)=false:=(ep a 116 Qa).trans (Qn.2 hd);have X:((116:Int)==(a.toNat:Int))=false:=by rw[Qn]at A⊢;exact λe=>A e.symm
    have J:=G (show lN a=jH (j3.drop 2) a by rw[y.out];unfold j3;simp only[ae,aw,jH];rw[if_neg hd]);clear hd;go_wp2_with fail;refine aB 5 1 [] mixed Qb trivial ?_;repeat (refine sx ?_ (λI o=> ?_) ?_;rotate_left;(focus clear o;go_simp<;>with_reducible rfl);simp only[bA,bx,bw,br,bo])
    intro H d _;simp only[ae,aU];have u:=G (F.out.trans d.un);clear d;go_wp2_with fail;go_roundw
    case rel=>exact⟨.inr (.inr (.inl ⟨rfl,J⟩)),u⟩
    case measure=>simp[intOf]
  ·have V: ∀h,(⟨#[10,110,9,116,0,48,92,92,39,39,34,34]⟩:ByteArray)[5]'h=48:=λ_=>rfl;have R: ∀h,(⟨#[10,110,9,116,0,48,92,92,39,39,34,34]⟩:ByteArray)[4]'h=0:=λ_=>rfl;by_cases hd:a=48
   ·subst hd;have z:=G (show cW (92::48::r)=(0,2)from rfl);clear y M;go_wp2_with fail;refine aB 5 1 [] mixed Qb trivial ?_;repeat (refine sx ?_ (λI o=> ?_) ?_;rotate_left;(focus clear o;go_simp<;>with_reducible rfl);simp only[bA,bx,bw,br,bo])
    intro H d _;simp only[ae,aU];have u:=G (F.out.trans d.un);clear d;go_wp2_with fail;go_ret2;exact⟨jY (by rw[z.out];rfl) (by rw[z.out];rfl),u.out⟩
   ·have A:((a.toNat:Int)==48)=false:=(ep a 48 Qa).trans (Qn.2 hd);have X:((48:Int)==(a.toNat:Int))=false:=by rw[Qn]at A⊢;exact λe=>A e.symm
    have J:=G (show lN a=jH (j3.drop 3) a by rw[y.out];unfold j3;simp only[ae,aw,jH];rw[if_neg hd]);clear hd;go_wp2_with fail;refine aB 5 1 [] mixed Qb trivial ?_;repeat (refine sx ?_ (λI o=> ?_) ?_;rotate_left;(focus clear o;go_simp<;>with_reducible rfl);simp only[bA,bx,bw,br,bo])
    intro H d _;simp only[ae,aU];have u:=G (F.out.trans d.un);clear d;go_wp2_with fail;go_roundw
    case rel=>exact⟨.inr (.inr (.inr (.inl ⟨rfl,J⟩))),u⟩
    case measure=>simp[intOf]
  ·have V: ∀h,(⟨#[10,110,9,116,0,48,92,92,39,39,34,34]⟩:ByteArray)[7]'h=92:=λ_=>rfl;have R: ∀h,(⟨#[10,110,9,116,0,48,92,92,39,39,34,34]⟩:ByteArray)[6]'h=92:=λ_=>rfl;by_cases hd:a=92
   ·subst hd;have z:=G (show cW (92::92::r)=(92,2)from rfl);clear y M;go_wp2_with fail;refine aB 5 1 [] mixed Qb trivial ?_;repeat (refine sx ?_ (λI o=> ?_) ?_;rotate_left;(focus clear o;go_simp<;>with_reducible rfl);simp only[bA,bx,bw,br,bo])
    intro H d _;simp only[ae,aU];have u:=G (F.out.trans d.un);clear d;go_wp2_with fail;go_ret2;exact⟨jY (by rw[z.out];rfl) (by rw[z.out];rfl),u.out⟩
   ·have A:((a.toNat:Int)==92)=false:=(ep a 92 Qa).trans (Qn.2 hd);have X:((92:Int)==(a.toNat:Int))=false:=by rw[Qn]at A⊢;exact λe=>A e.symm
    have J:=G (show lN a=jH (j3.drop 4) a by rw[y.out];unfold j3;simp only[ae,aw,jH];rw[if_neg hd]);clear hd;go_wp2_with fail;refine aB 5 1 [] mixed Qb trivial ?_;repeat (refine sx ?_ (λI o=> ?_) ?_;rotate_left;(focus clear o;go_simp<;>with_reducible rfl);simp only[bA,bx,bw,br,bo])
    intro H d _;simp only[ae,aU];have u:=G (F.out.trans d.un);clear d;go_wp2_with fail;go_roundw
    case rel=>exact⟨.inr (.inr (.inr (.inr (.inl ⟨rfl,J⟩)))),u⟩
    case measure=>simp[intOf]
  ·have V: ∀h,(⟨#[10,110,9,116,0,48,92,92,39,39,34,34]⟩:ByteArray)[9]'h=39:=λ_=>rfl;have R: ∀h,(⟨#[10,110,9,116,0,48,92,92,39,39,34,34]⟩:ByteArray)[8]'h=39:=λ_=>rfl;by_cases hd:a=39
   ·subst hd;have z:=G (show cW (92::39::r)=(39,2)from rfl);clear y M;go_wp2_with fail;refine aB 5 1 [] mixed Qb trivial ?_;repeat (refine sx ?_ (λI o=> ?_) ?_;rotate_left;(focus clear o;go_simp<;>with_reducible rfl);simp only[bA,bx,bw,br,bo])
    intro H d _;simp only[ae,aU];have u:=G (F.out.trans d.un);clear d;go_wp2_with fail;go_ret2;exact⟨jY (by rw[z.out];rfl) (by rw[z.out];rfl),u.out⟩
   ·have A:((a.toNat:Int)==39)=false:=(ep a 39 Qa).trans (Qn.2 hd);have X:((39:Int)==(a.toNat:Int))=false:=by rw[Qn]at A⊢;exact λe=>A e.symm
    have J:=G (show lN a=jH (j3.drop 5) a by rw[y.out];unfold j3;simp only[ae,aw,jH];rw[if_neg hd]);clear hd;go_wp2_with fail;refine aB 5 1 [] mixed Qb trivial ?_;repeat (refine sx ?_ (λI o=> ?_) ?_;rotate_left;(focus clear o;go_simp<;>with_reducible rfl);simp only[bA,bx,bw,br,bo])
    intro H d _;simp only[ae,aU];have u:=G (F.out.trans d.un);clear d;go_wp2_with fail;go_roundw
    case rel=>exact⟨.inr (.inr (.inr (.inr (.inr (.inl ⟨rfl,J⟩))))),u⟩
    case measure=>simp[intOf]
  ·have V: ∀h,(⟨#[10,110,9,116,0,48,92,92,39,39,34,34]⟩:ByteArray)[11]'h=34:=λ_=>rfl;have R: ∀h,(⟨#[10,110,9,116,0,48,92,92,39,39,34,34]⟩:ByteArray)[10]'h=34:=λ_=>rfl;by_cases hd:a=34
   ·subst hd;have z:=G (show cW (92::34::r)=(34,2)from rfl);clear y M;go_wp2_with fail;refine aB 5 1 [] mixed Qb trivial ?_;repeat (refine sx ?_ (λI o=> ?_) ?_;rotate_left;(focus clear o;go_simp<;>with_reducible rfl);simp only[bA,bx,bw,br,bo])
    intro H d _;simp only[ae,aU];have u:=G (F.out.trans d.un);clear d;go_wp2_with fail;go_ret2;exact⟨jY (by rw[z.out];rfl) (by rw[z.out];rfl),u.out⟩
   ·have A:((a.toNat:Int)==34)=false:=(ep a 34 Qa).trans (Qn.2 hd);have X:((34:Int)==(a.toNat:Int))=false:=by rw[Qn]at A⊢;exact λe=>A e.symm
    have J:=G (show lN a=jH (j3.drop 6) a by rw[y.out];unfold j3;simp only[ae,aw,jH];rw[if_neg hd]);clear hd;go_wp2_with fail;refine aB 5 1 [] mixed Qb trivial ?_;repeat (refine sx ?_ (λI o=> ?_) ?_;rotate_left;(focus clear o;go_simp<;>with_reducible rfl);simp only[bA,bx,bw,br,bo])
    intro H d _;simp only[ae,aU];have u:=G (F.out.trans d.un);clear d;go_wp2_with fail;go_roundw
    case rel=>exact⟨.inr (.inr (.inr (.inr (.inr (.inr (⟨rfl,J⟩)))))),u⟩
    case measure=>simp[intOf]
  ·have z:=G (show cW (92::a::r)=(0,0) by have h:lN a=none:=y.out;simp[cW,h]);clear y M;go_wp2_with fail;go_ret2;exact⟨jY (by rw[z.out];rfl) (by rw[z.out];rfl),F.out⟩
theorem uK (l:List UInt8) (w:World) (A:l.length<=100000):
  Calls prog 202 #[.string (ak l)] w λe w'=>e= .returned (.tuple #[.int .u8 ((cW l).1.toNat:Int), .int .i64 ((cW l).2:Int)])/\au w w':=by
 match l with
 | []=>
  go_enter func202,ntmps202;go_wp2_with fail;go_ret2;exact⟨rfl,aG w⟩
 |c::r=>
  have z:(ak (c::r)).size=r.length+1:=by rw[a7];rfl
  have K:(0:Nat)<(ak (c::r)).size:=by rw[z];omega
  have M:(ak (c::r))[0]=c:=rfl;by_cases h1:c.toNat<32
  ·have a:=G (show cW (c::r)=(0,0) by simp[cW,h1]);have o:(c.toNat:Int)<32:=Qa
   go_enter func202,ntmps202;go_wp2_with fail;go_ret2;exact⟨jY (by rw[a.out];rfl) (by rw[a.out];rfl),aG w⟩
  by_cases h2:126<c.toNat
  ·have a:=G (show cW (c::r)=(0,0) by simp[cW,h2]);have o: ¬(c.toNat:Int)<32:=Qa
   have y:(126:Int)<c.toNat:=Qa
   go_enter func202,ntmps202;go_wp2_with fail;go_ret2;exact⟨jY (by rw[a.out];rfl) (by rw[a.out];rfl),aG w⟩
  have o:decide ((c.toNat:Int)<32)=false:=Qg
  have y:decide ((126:Int)<c.toNat)=false:=Qg
  by_cases h3:c=92
  ·subst h3
   match r with
   | []=>
    clear o y;go_enter func202,ntmps202;go_wp2_with fail
    go_loopw [4] (λu wr=>u= .int .i64 1/\wr=w) (λu _=>0)
    case atStart=>exact⟨rfl,rfl⟩
    case round=>
     obtain⟨rfl,rfl⟩:=hrel;go_wp2_with fail;go_ret2;exact⟨rfl,aG _⟩
   |d::r'=>exact BE d r' w (by simp at A;omega)
  ·have a:=G (show cW (c::r)=(c,1) by simp only[cW];rw[if_neg Qa,if_pos h3]);have J:((c.toNat:Int) !=92)=true:=by
    have F:((c.toNat:Int)==92)=false:=(ep c 92 Qa).trans (Qn.2 h3);rw[bne,F];rfl
   have I: ¬(c.toNat:Int)<32:=Qa
   have H: ¬(126:Int)<c.toNat:=Qa
   clear h3;go_enter func202,ntmps202;go_wp2_with fail;go_ret2;exact⟨jY (by rw[a.out]) (by rw[a.out];rfl),aG w⟩
def aa:=@au.alloc
def aq:=@aM.new
def eI:=@Sl.none_
def eJ:=@au.drew
def lV:=@aM.drew
def qP:=@aM.lt
end
end Go.Proofs.YtoedmpgicdekmaaGreatDoor
