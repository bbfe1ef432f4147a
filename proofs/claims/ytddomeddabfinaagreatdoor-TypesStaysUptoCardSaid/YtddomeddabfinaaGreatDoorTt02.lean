/- Parts of the proof. -/
import Derived.WalkKit
import Derived.WalkSpells
import Derived.WalkLawsBesides
import Derived.Maps.AppendAt
import Derived.OwnWalk
import Derived.Laws.IdiomStrings
import Derived.Laws.MakeOwn
import Derived.Test.YtddomeddabfinaaGreatDoorTt01
import Derived.Test.YtddomeddabfinaaGreatDoorTt00
set_option maxRecDepth 100000
set_option maxHeartbeats 8000000
set_option linter.unusedVariables false
set_option linter.unusedSimpArgs false
set_option linter.defProp false
set_option linter.unusedSectionVars false
namespace Go.Proofs.YtddomeddabfinaaGreatDoor
open Go.Proofs.Tryz
section
open Go.RowKit
theorem az.alloc (a:World) (h:Obj):az a (a.alloc h):=(Below.refl _ _).alloc (ak _) h
theorem az.alloc' {j a:World} (o:az j a) (h:Obj):az j (a.alloc h):=o.trans (az.alloc a h)
theorem az.drew {h a:World} (j:az h a):az h a.drew:=Below.drew j
theorem az.set {a h:World} (o:az a h) {p:Addr} (j:a.heap.size<=p.block) (u:Value):az a (h.setCell p u):=Below.setCell o j u
theorem az.grown {a h w':World} {row:Option Nat} (j:az a h) (w:h.grownBy w' row) (o: ∀k,row=some k->a.heap.size<=k):az a w':=Below.grown j w j.size o
theorem az.cell {h w':World} (o:az h w'): ∀b a,b<h.heap.size->w'.cell? ⟨b,a,none⟩=h.cell? ⟨b,a,none⟩:=λb a j=>Below.cell o (p:=⟨b,a,none⟩) j
theorem O {p:Prop} (a:p):Hid p:=a
def Ca (b:UInt8):Value:=.int .u8 (b.toNat:Int)
def me (l:List UInt8):List Value:=l.map Ca
theorem qe (l:List UInt8):(me l).length=l.length:=by simp[me]
structure Sl (w:World) (A:Option Addr) (cap:Nat) (l:List UInt8):Prop where
 le:l.length<=cap
 max:cap<=maxLen
 nil:A=none->cap=0
 rd:l=[]\/ ∃b off,A=some ⟨b,off,none⟩/\b<w.heap.size/\ ∀i,(h:i<l.length)->w.cell? ⟨b,off+i,none⟩=some (.int .u8 (l[i].toNat:Int))
theorem Sl.none_ (a:World):Sl a none 0 []:=⟨by simp,by simp[maxLen],λ_=>rfl,.inl rfl⟩
theorem Sl.ext {h w':World} {z:Option Addr} {w:Nat} {l:List UInt8} (a:Sl h z w l) (j:az h w'):Sl w' z w l:=
 ⟨a.le,a.max,a.nil,a.rd.imp id fun⟨b,off,ha,o,G⟩=>⟨b,off,ha,aF o j.size,λi A=>(j.cell b _ o).trans (G i A)⟩⟩
def qp (w:World) (base:Nat) (e:TypeId) (v:Value) (l:List UInt8):Prop:=w.ownsRow base e 1 v l.length (me l)
theorem qp.sl {a:World} {base:Nat} {e:TypeId} {K:Option Addr} {n G:Nat} {l:List UInt8} (o:qp a base e (.slice K n G) l):n=l.length/\Sl a K G l:=by
 obtain⟨V,R⟩:=o;rcases R with⟨h,M⟩|⟨g,c,cur,h,hb,hg,hnc,hcm,hcs,ht⟩
 ·injection h with A z w;subst A z w;have:l=[]:=ax M;subst this;exact⟨rfl,Sl.none_ a⟩
 ·injection h with A z w;subst A z w;refine⟨rfl,hnc,hcm,(λo=>by cases o),.inr ⟨g,0,rfl,(Array.getElem?_eq_some_iff.1 hg).1,λi O=> ?_⟩⟩;rw[aG,cell_of_row a g i cur e (0,0) hg];have j:(me l)[i]? =some (Ca l[i]):=by simp[me,O]
  rw[<-ht,bL]at j;rw[if_pos Qa]at j;simpa[Ca]using j
structure qt (P:Program) (t e:TypeId):Prop where
 under:P.underlying t=some (.slice e)
 info:(P.info? e).map (λi=>(i.zero,i.size,i.bytes))=some (some (.int .u8 0),1,1)
section
variable {P:Program} {w:World}
theorem qp.form {base:Nat} {e:TypeId} {v:Value} {l:List UInt8} (j:qp w base e v l): ∃o a,v=.slice o l.length a:=by
 rcases j.2 with⟨rfl,h⟩|⟨g,a,cur,rfl,_⟩
 ·exact⟨none,0,by rw[h]⟩
 ·exact⟨_,_,rfl⟩
theorem oF {t e:TypeId} (A:qt P t e) (o:TypeId) (base:Nat) (v:Value) (l:List UInt8) (z:qp w base e v l) (G:Option Addr) (j:Nat) (m:List UInt8) (ai:Sl w G j m)
  (an:l.length+m.length<=70368744177664) (J:base<=w.heap.size):
  ∃a cap' w',(Builtin.append_ #[t,t] o #[v,.slice G m.length j]).run P w=.ok (.slice a (l.length+m.length) cap') w'/\qp w' base e (.slice a (l.length+m.length) cap') (l++m)/\w.grownBy w' v.ownBlock/\
   (Value.ownBlock (.slice a (l.length+m.length) cap')=v.ownBlock\/Value.ownBlock (.slice a (l.length+m.length) cap')=some w.heap.size):=by
 obtain⟨i,M,ah,ag,af⟩:=info_parts A.info;have ab: ∀h w',(Builtin.append_ #[t,t] o #[v,.slice G m.length j]).run P w=.ok h w'->w'.ownsRow base e 1 h (l.length+m.length) (me l++me m)->w.grownBy w' v.ownBlock->(h.ownBlock=v.ownBlock\/h.ownBlock=some w.heap.size)->
   ∃a cap' w',(Builtin.append_ #[t,t] o #[v,.slice G m.length j]).run P w=.ok (.slice a (l.length+m.length) cap') w'/\qp w' base e (.slice a (l.length+m.length) cap') (l++m)/\w.grownBy w' v.ownBlock/\
    (Value.ownBlock (.slice a (l.length+m.length) cap')=v.ownBlock\/Value.ownBlock (.slice a (l.length+m.length) cap')=some w.heap.size):=by
  intro h w' aj ao aq al;have R:qp w' base e h (l++m):=by unfold qp;rw[ac];simpa[me]using ao
  obtain⟨a,cap',rfl⟩:=R.form;rw[ac]at aj R al;exact⟨a,cap',w',aj,R,aq,al⟩
 have ar: ∀u∈me m,u.oneCell'=true:=λu K=>by
  obtain⟨b,_,rfl⟩:=List.mem_map.1 K;rfl
 rcases ai.rd with rfl|⟨b,off,rfl,_,hc⟩
 ·rcases G with _|ad
  ·obtain rfl:j=0:=ai.nil rfl;refine ab v w ?_ (by unfold qp at z;simpa[me]using z) (World.grownBy.refl w _) (.inl rfl);rcases z.2 with⟨rfl,ap⟩|⟨g,c,cur,rfl,_,_,hnc,_⟩
   ·have:l=[]:=ax ap;subst this;simp[Builtin.append_,run_underlying A.under,sizeOf,typeInfo,M,Builtin.lenOf,Builtin.firstCells]
   ·simp[Builtin.append_,run_underlying A.under,sizeOf,typeInfo,M,Builtin.lenOf,Builtin.firstCells,hnc,storeCells]
  ·obtain⟨h,w',O,I,X,_,V⟩:=run_append_own_at (P:=P) w base t o e i (.int .u8 0) 1 1 A.under M ah ag af rfl Qc v l.length (me l) z ad 0 j [] Qd Qd Qd (by simp only[maxLen];simp at an;omega) (by simp at an;omega) J;exact ab h w' O (by simpa[me]using I) X V
 ·obtain⟨h,w',O,I,X,_,V⟩:=run_append_own_at (P:=P) w base t o e i (.int .u8 0) 1 1 A.under M ah ag af rfl Qc v l.length (me l) z ⟨b,off,none⟩ m.length j (me m) (by simp[me]) (λae u K=>by
    have ak:ae<m.length:=by have:=(List.getElem?_eq_some_iff.1 K).1;simpa[me]using this
    rw[Addr.add_lit,hc ae ak,<-K]
    simp[me,Ca,ak]) ar Qi Qa J
  exact ab h w' O I X V
theorem pl {ops:Array Oper} {rest:List Oper} {h:Oper} {j:Act} {Q:Exit->Act->World->Prop} {t e:TypeId} (ab:qt P t e) (V:h.guard=none) (s x:Operand)
  (R:h.op=.call {callee:=.builtin .append,args:= #[s,x],argTypes:= #[t,t]}) (base:Nat) (v:Value) (l:List UInt8) (G:j.eval s=v) (O:qp w base e v l)
  (z:Option Addr) (o:Nat) (m:List UInt8) (A:j.eval x=.slice z m.length o) (K:Sl w z o m) (I:l.length+m.length<=70368744177664) (X:base<=w.heap.size)
  (ag: ∀a cap' w',qp w' base e (.slice a (l.length+m.length) cap') (l++m)->w.grownBy w' v.ownBlock->
   (Value.ownBlock (.slice a (l.length+m.length) cap')=v.ownBlock\/Value.ownBlock (.slice a (l.length+m.length) cap')=some w.heap.size)->wpList P ops Q rest (j.put h.dst (.slice a (l.length+m.length) cap')) w'):
  wpList P ops Q (h::rest) j w:=by
 obtain⟨a,cap',w',M,af,ae,ad⟩:=oF (P:=P) (w:=w) ab h.type base v l O z o m K I X;refine wpList_plain V λah ac=> ?_;unfold Oper.wp execOp;simp only[R,resolve,invoke,builtin,Sem.run_bind,Sem.run_pure,Result.andThen_ok,dQ,bF,cY,G,A,M];exact ac _ _ (ag a cap' w' af ae ad)
end
theorem qp.nil_ (a:World) (base:Nat) (e:TypeId):qp a base e (.slice none 0 0) []:=World.ownsRow_nil a base e 1
def J (l:List UInt8):ByteArray:=⟨l.toArray⟩
@[simp] theorem EL (l:List UInt8):(J l).toList=l:=by simp[J]
theorem Sl.convert {P:Program} {src dst e:TypeId} {a:World} {j:Option Addr} {h:Nat} {l:List UInt8} (o:P.underlying src=some (.slice e)) (w:P.underlying e=some (.int .u8)) (z:P.underlying dst=some .string) (K:Sl a j h l):
  (Go.convert src dst (.slice j l.length h)).run P a=.ok (.string (J l)) a:=by
 rcases K.rd with rfl|⟨b,off,rfl,_,hc⟩
 ·rw[run_convert_bytes_string a src dst e j _ h o w z]
  cases j<;>simp[Conv.bytesToString,loadCells,loadCellsFrom]<;>rfl
 ·exact run_convert_bytes_back a src dst e ⟨b,off,none⟩ h l o w z (λA G=>by rw[Addr.add_lit];exact hc A G)
theorem qp.grown {a w':World} {base:Nat} {e:TypeId} {v:Value} {l:List UInt8} {row:Option Nat} (o:qp a base e v l) (j:a.grownBy w' row) (h:v.ownBlock=none\/v.ownBlock≠row):qp w' base e v l:=World.ownsRow.kept o j h
theorem qp.ext {a w':World} {base:Nat} {e:TypeId} {v:Value} {l:List UInt8} (j:qp a base e v l) (h:az a w'):qp w' base e v l:=j.grown (h.grownBy none) (by cases v.ownBlock<;>simp)
def aU (w:World) (g:Nat) (t:TypeId) (cs:Array Value):Prop:=w.heap[g]? =some (.cells cs t (0,0))
section
variable {w w':World} {g:Nat} {t:TypeId} {cs:Array Value}
theorem aU.lt (a:aU w g t cs):g<w.heap.size:=(Array.getElem?_eq_some_iff.1 a).1
theorem aU.cell (a:aU w g t cs) (i:Nat):w.cell? ⟨g,i,none⟩=cs[i]? :=cell_of_row w g i cs t (0,0) a
theorem aU.frozen (a:aU w g t cs) (i:Nat):w.frozen? ⟨g,i,none⟩=false:=by unfold aU at a;simp[World.frozen?,a]
theorem aU.new (w:World) (t:TypeId) (cs:Array Value):aU (w.alloc (.cells cs t)) w.heap.size t cs:=heap_alloc_new w _
theorem aU.drew (a:aU w g t cs):aU w.drew g t cs:=a
theorem aU.alloc (h:aU w g t cs) (a:Obj):aU (w.alloc a) g t cs:=(Below.heap_alloc w a g h.lt).trans h
theorem aU.set (a:aU w g t cs) (i:Nat) (u:Value):aU (w.setCell ⟨g,i,none⟩ u) g t (cs.setIfInBounds i u):=by
 unfold aU at a⊢;simp[World.setCell,Array.getElem?_modify,a]
theorem aU.far (h:aU w g t cs) {p:Addr} (a:g≠p.block) (u:Value):aU (w.setCell p u) g t cs:=(Below.heap_setCell w p u g a).trans h
theorem aU.ext (a:aU w g t cs) (h:az w w'):aU w' g t cs:=(h.obj a.lt).trans a
theorem aU.grown {row:Option Nat} (a:aU w g t cs) (j:w.grownBy w' row) (h:some g≠row):aU w' g t cs:=(j.block g a.lt h).trans a
end
theorem mixed:prog.follows .mixedOrders=true:=Qb
theorem fG {a b:Bool} (h:a=b):Ending.returned (.bool a)=.returned (.bool b):=by rw[h]
theorem nq {k:IntKind} {a b:Int} (h:a=b):Ending.returned (.int k a)=.returned (.int k b):=by rw[h]
theorem F3 (x y:UInt8):bits .or .u8 (x.toNat:Int) (y.toNat:Int)=((x|||y).toNat:Int):=by
 show IntKind.u8.wrap ((BitVec.ofInt 8 (x.toNat:Int)|||BitVec.ofInt 8 (y.toNat:Int)).toNat:Int)=_;have e: ∀a:UInt8,BitVec.ofInt 8 (a.toNat:Int)=a.toBitVec:=λa=>by
  rw[BitVec.ofInt_natCast];exact BitVec.eq_of_toNat_eq Qd
 rw[e,e,<-UInt8.toBitVec_or];generalize x|||y=a;have h:=a.toNat_lt;show IntKind.u8.wrap (a.toNat:Int)=(a.toNat:Int);simp only[IntKind.wrap,IntKind.signed,IntKind.bits];simp;omega
theorem m5 (c:UInt8) (o:World):Calls prog 108 #[.int .u8 (c.toNat:Int)] o λe w'=>e=.returned (.bool (io c))/\o=w':=by
 have A:=F3 c 32;have e:((32:UInt8).toNat:Int)=32:=rfl;rw[e]at A;have j:=O (show io c=decide (97<=(c|||32).toNat/\(c|||32).toNat<=122)from rfl);generalize (c|||32)=q at*;clear e;by_cases h1:97<=q.toNat
 ·by_cases h2:q.toNat<=122
  ·have a:=O (show io c=true by rw[j.out];simp[h1,h2]);have w:(97:Int)<=q.toNat:=Qa
   have z:(q.toNat:Int)<=122:=Qa
   go_enter func108,ntmps108;go_wp2;go_ret;exact⟨fG a.out.symm,rfl⟩
  ·have a:=O (show io c=false by rw[j.out];simp[h1,h2]);have w:(97:Int)<=q.toNat:=Qa
   have z: ¬(q.toNat:Int)<=122:=Qa
   go_enter func108,ntmps108;go_wp2;go_ret;exact⟨fG a.out.symm,rfl⟩
 ·have a:=O (show io c=false by rw[j.out];simp[h1]);have w: ¬(97:Int)<=q.toNat:=Qa
  go_enter func108,ntmps108;go_wp2;go_ret;exact⟨fG a.out.symm,rfl⟩
theorem ot (c:UInt8) (o:World):Calls prog 140 #[.int .u8 (c.toNat:Int)] o λe w'=>e=.returned (.bool (eG c))/\o=w':=by
 have j:=O (show eG c=decide (48<=c.toNat/\c.toNat<=57)from rfl);by_cases h1:48<=c.toNat
 ·by_cases h2:c.toNat<=57
  ·have a:=O (show eG c=true by rw[j.out];simp[h1,h2]);have w:(48:Int)<=c.toNat:=Qa
   have z:(c.toNat:Int)<=57:=Qa
   go_enter func140,ntmps140;go_wp2;go_ret;exact⟨fG a.out.symm,rfl⟩
  ·have a:=O (show eG c=false by rw[j.out];simp[h1,h2]);have w:(48:Int)<=c.toNat:=Qa
   have z: ¬(c.toNat:Int)<=57:=Qa
   go_enter func140,ntmps140;go_wp2;go_ret;exact⟨fG a.out.symm,rfl⟩
 ·have a:=O (show eG c=false by rw[j.out];simp[h1]);have w: ¬(48:Int)<=c.toNat:=Qa
  go_enter func140,ntmps140;go_wp2;go_ret;exact⟨fG a.out.symm,rfl⟩
theorem ef (a:UInt8) (n:Nat) (o:n<256):((a.toNat:Int)==(n:Int))=(a==UInt8.ofNat n):=by
 by_cases h:a=UInt8.ofNat n
 ·subst h;have:(UInt8.ofNat n).toNat=n:=by rw[fM];omega
  rw[this];simp
 ·have j:(a.toNat:Int)≠(n:Int):=λe=>h (UInt8.toNat_inj.1 (by rw[fM];omega));rw[Ql.2 h,Ql.2 j]
theorem nt (c:UInt8) (a:World):Calls prog 107 #[.int .u8 (c.toNat:Int)] a λe w'=>e=.returned (.bool (fd c))/\a=w':=by
 have z:((c.toNat:Int)==95)=(c==95):=ef c 95 Qa;have j:=O (m5 c a);have o:=O (ot c a);have w:=O (show fd c=(io c||eG c||c==95)from rfl);generalize io c=l at*;generalize eG c=d at*;generalize (c==95)=u at*
 cases l<;>cases d<;>cases u;all_goals
  go_enter func107,ntmps107
  go_wp2_with (first
   |(go_at_call 108;refine j.out.mono ?_;rintro e w' ⟨rfl,rfl⟩)
   |(go_at_call 140;refine o.out.mono ?_;rintro e w' ⟨rfl,rfl⟩))
  go_ret;exact⟨fG (by rw[w.out];rfl),rfl⟩
theorem bm (l:List UInt8):(J l).size=l.length:=by
 show l.toArray.size=l.length;simp
theorem nh (l:List UInt8) (a:Nat) (h:a<(J l).size):(J l)[a]=l[a]'(by rw[<-bm];exact h):=rfl
theorem fK (l:List UInt8) (a b:Nat):(J l).extract a b=J ((l.take b).drop a):=by
 apply j8;rw[ByteArray.data_extract];apply kI;show(l.toArray.extract a b).toList=((l.take b).drop a);rw[Array.toList_extract,List.drop_take]
theorem tq (p:UInt8->Bool) (fn:Nat) (G: ∀(c:UInt8) (j:World),Calls prog fn #[.int .u8 (c.toNat:Int)] j λe w'=>e=.returned (.bool (p c))/\j=w') (X:fn=107\/fn=140) (l:List UInt8) (ad:l.length<=100000) (j:World):
  Calls prog 179 #[.string (J l),.func (.func fn) #[] #[]] j λe w'=>e=.returned (.int .i64 (cm p l))/\j=w':=by
 have I:=O G;have ab:=bm l;have ac:=jx p l;clear G;rcases X with rfl|rfl;all_goals
  go_enter func179,ntmps179;go_wp2_with fail
  go_loop [5] (λA=> ∃a:Nat,A=.int .i64 a/\a<=cm p l) (λA=>l.length-(intOf A).toNat)
  case atStart=>exact⟨0,rfl,aI _⟩
  case round=>
   obtain⟨a,rfl,V⟩:=hrel;by_cases hlt:a<l.length
   ·have R:a<(J l).size:=by rw[bm];exact hlt
    have ae:=nh l a R;have w:=uT p hlt;have K:=pC p l a V;have z:=O (I.out l[a] j);have M:(a:Int)<l.length:=Qa
    generalize l[a]'hlt=c at*
    cases hp:p c with
    |true=>
     rw[hp,if_pos rfl]at w;have o:=O (show a+1<=cm p l by omega);rw[hp]at z;clear w K hp;go_wp2_with (refine z.out.mono ?_;rintro e w' ⟨rfl,rfl⟩)
     go_round
     case rel=>exact⟨a+1,by go_num,o.out⟩
     case measure=>simp[intOf];omega
    |false=>
     rw[hp,if_neg Qd]at w;have o:=O (show cm p l=a by omega);rw[hp]at z;clear w K hp;go_wp2_with (refine z.out.mono ?_;rintro e w' ⟨rfl,rfl⟩);go_ret;exact⟨nq (by rw[o.out]),rfl⟩
   ·have o:=O (show cm p l=a by omega);have M: ¬(a:Int)<l.length:=Qa
    go_wp2_with fail;go_ret;exact⟨nq (by rw[o.out]),rfl⟩
theorem DG (l:List UInt8):(sY l=true/\(l=[118,97,114]\/l=[102,117,110,99]\/l=[105,102]\/l=[101,108,115,101]\/l=[119,104,105,108,101]\/l=[114,101,116,117,114,110]))\/
  (sY l=false/\(l==[118,97,114])=false/\(l==[102,117,110,99])=false/\(l==[105,102])=false/\(l==[101,108,115,101])=false/\(l==[119,104,105,108,101])=false/\(l==[114,101,116,117,114,110])=false):=by
 cases h:sY l with
 |true=>
  refine .inl ⟨rfl,?_⟩;unfold sY GM at h;simpa using h
 |false=>
  refine .inr ⟨rfl,?_⟩;unfold sY GM at h;simp only[gQ,Bool.or_eq_false_iff]at h;exact⟨h.1,h.2.1,h.2.2.1,h.2.2.2.1,h.2.2.2.2.1,h.2.2.2.2.2.1⟩
theorem oJ (l:List UInt8) (j:World):Calls prog 109 #[.string (J l)] j λe w'=>e=.returned (.bool (sY l))/\j=w':=by
 rcases DG l with⟨a,rfl|rfl|rfl|rfl|rfl|rfl⟩|⟨a,h1,h2,h3,h4,h5,h6⟩
 all_goals
  have o:=O a;clear a;go_enter func109,ntmps109;go_wp2_with fail;go_ret;exact⟨fG o.out.symm,rfl⟩
def kb:List (UInt8×UInt8):=[(110,10),(116,9),(48,0),(92,92),(39,39),(34,34)]
def jI:List (UInt8×UInt8)->UInt8->Option UInt8
 | [],_=>none
 |x::l,d=>if d=x.1 then some x.2 else jI l d
theorem DP (d:UInt8):lB d=jI kb d:=by unfold lB kb;simp only[jI]
theorem j' {a b:Int} {c d:Int} (j:a=b) (h:c=d):Ending.returned (.tuple #[.int .u8 a,.int .i64 c])=.returned (.tuple #[.int .u8 b,.int .i64 d]):=by rw[j,h]
theorem Bs (d:UInt8) (r:List UInt8) (ad:World) (ai:r.length<=100000):
  Calls prog 181 #[.string (J (92::d::r))] ad λe w'=>e=.returned (.tuple #[.int .u8 ((cA (92::d::r)).1.toNat:Int),.int .i64 ((cA (92::d::r)).2:Int)])/\az ad w':=by
 have af:(J (92::d::r)).size=r.length+2:=by rw[bm];rfl
 have ak:(0:Nat)<(J (92::d::r)).size:=by rw[af];omega
 have aj:(1:Nat)<(J (92::d::r)).size:=by rw[af];omega
 have an:(J (92::d::r))[0]=92:=rfl;have al:(J (92::d::r))[1]=d:=rfl;have ah:(1:Int)<(r.length:Int)+2:=Qa
 have X:=O (DP d);go_enter func181,ntmps181;go_wp2_with fail
 go_loopw [4] (λV wr=>((V=.int .i64 1/\Hid (lB d=jI (kb.drop 0) d))\/(V=.int .i64 3/\Hid (lB d=jI (kb.drop 1) d))\/(V=.int .i64 5/\Hid (lB d=jI (kb.drop 2) d))\/(V=.int .i64 7/\Hid (lB d=jI (kb.drop 3) d))\/(V=.int .i64 9/\Hid (lB d=jI (kb.drop 4) d))\/(V=.int .i64 11/\Hid (lB d=jI (kb.drop 5) d))\/(V=.int .i64 13/\Hid (lB d=jI (kb.drop 6) d)))/\Hid (az ad wr)) (λV _=>14-(intOf V).toNat)
 case atStart=>exact⟨.inl ⟨rfl,O rfl⟩,O (aS ad)⟩
 case round=>
  obtain⟨ag,G⟩:=hrel;rcases ag with⟨rfl,w⟩|⟨rfl,w⟩|⟨rfl,w⟩|⟨rfl,w⟩|⟨rfl,w⟩|⟨rfl,w⟩|⟨rfl,w⟩
  ·have ab: ∀h,(⟨#[10,110,9,116,0,48,92,92,39,39,34,34]⟩:ByteArray)[1]'h=110:=λ_=>rfl;have I: ∀h,(⟨#[10,110,9,116,0,48,92,92,39,39,34,34]⟩:ByteArray)[0]'h=10:=λ_=>rfl;by_cases hd:d=110
   ·subst hd;have z:=O (show cA (92::110::r)=(10,2)from rfl);clear w X;go_wp2_with fail;refine aB 5 1 [] mixed Qb trivial ?_;repeat (refine sx ?_ (λM j=> ?_) ?_;rotate_left;(focus clear j;go_simp<;>with_reducible rfl);simp only[a8,a7,a6,aZ,aY])
    intro K a _;simp only[ae,aQ];have o:=O (G.out.trans a.un);clear a;go_wp2_with fail;go_ret2;exact⟨j' (by rw[z.out];rfl) (by rw[z.out];rfl),o.out⟩
   ·have A:((d.toNat:Int)==110)=false:=(ef d 110 Qa).trans (Ql.2 hd);have ac:((110:Int)==(d.toNat:Int))=false:=by rw[Ql]at A⊢;exact λe=>A e.symm
    have R:=O (show lB d=jI (kb.drop 1) d by rw[w.out];unfold kb;simp only[ae,au,jI];rw[if_neg hd]);clear hd;go_wp2_with fail;refine aB 5 1 [] mixed Qb trivial ?_;repeat (refine sx ?_ (λM j=> ?_) ?_;rotate_left;(focus clear j;go_simp<;>with_reducible rfl);simp only[a8,a7,a6,aZ,aY])
    intro K a _;simp only[ae,aQ];have o:=O (G.out.trans a.un);clear a;go_wp2_with fail;go_roundw
    case rel=>exact⟨.inr (.inl ⟨rfl,R⟩),o⟩
    case measure=>simp[intOf]
  ·have ab: ∀h,(⟨#[10,110,9,116,0,48,92,92,39,39,34,34]⟩:ByteArray)[3]'h=116:=λ_=>rfl;have I: ∀h,(⟨#[10,110,9,116,0,48,92,92,39,39,34,34]⟩:ByteArray)[2]'h=9:=λ_=>rfl;by_cases hd:d=116
   ·subst hd;have z:=O (show cA (92::116::r)=(9,2)from rfl);clear w X;go_wp2_with fail;refine aB 5 1 [] mixed Qb trivial ?_;repeat (refine sx ?_ (λM j=> ?_) ?_;rotate_left;(focus clear j;go_simp<;>with_reducible rfl);simp only[a8,a7,a6,aZ,aY])
    intro K a _;simp only[ae,aQ];have o:=O (G.out.trans a.un);clear a;go_wp2_with fail;go_ret2;exact⟨j' (by rw[z.out];rfl) (by rw[z.out];rfl),o.out⟩
   ·have A:((d.toNat:Int)==116)=false:=(ef d 116 Qa).trans (Ql.2 hd);have ac:((116:Int)==(d.toNat:Int))=false:=by rw[Ql]at A⊢;exact λe=>A e.symm
    have R:=O (show lB d=jI (kb.drop 2) d by rw[w.out];unfold kb;simp only[ae,au,jI];rw[if_neg hd]);clear hd;go_wp2_with fail;refine aB 5 1 [] mixed Qb trivial ?_;repeat (refine sx ?_ (λM j=> ?_) ?_;rotate_left;(focus clear j;go_simp<;>with_reducible rfl);simp only[a8,a7,a6,aZ,aY])
    intro K a _;simp only[ae,aQ];have o:=O (G.out.trans a.un);clear a;go_wp2_with fail;go_roundw
    case rel=>exact⟨.inr (.inr (.inl ⟨rfl,R⟩)),o⟩
    case measure=>simp[intOf]
  ·have ab: ∀h,(⟨#[10,110,9,116,0,48,92,92,39,39,34,34]⟩:ByteArray)[5]'h=48:=λ_=>rfl;have I: ∀h,(⟨#[10,110,9,116,0,48,92,92,39,39,34,34]⟩:ByteArray)[4]'h=0:=λ_=>rfl;by_cases hd:d=48
   ·subst hd;have z:=O (show cA (92::48::r)=(0,2)from rfl);clear w X;go_wp2_with fail;refine aB 5 1 [] mixed Qb trivial ?_;repeat (refine sx ?_ (λM j=> ?_) ?_;rotate_left;(focus clear j;go_simp<;>with_reducible rfl);simp only[a8,a7,a6,aZ,aY])
    intro K a _;simp only[ae,aQ];have o:=O (G.out.trans a.un);clear a;go_wp2_with fail;go_ret2;exact⟨j' (by rw[z.out];rfl) (by rw[z.out];rfl),o.out⟩
   ·have A:((d.toNat:Int)==48)=false:=(ef d 48 Qa).trans (Ql.2 hd);have ac:((48:Int)==(d.toNat:Int))=false:=by rw[Ql]at A⊢;exact λe=>A e.symm
    have R:=O (show lB d=jI (kb.drop 3) d by rw[w.out];unfold kb;simp only[ae,au,jI];rw[if_neg hd]);clear hd;go_wp2_with fail;refine aB 5 1 [] mixed Qb trivial ?_;repeat (refine sx ?_ (λM j=> ?_) ?_;rotate_left;(focus clear j;go_simp<;>with_reducible rfl);simp only[a8,a7,a6,aZ,aY])
    intro K a _;simp only[ae,aQ];have o:=O (G.out.trans a.un);clear a;go_wp2_with fail;go_roundw
    case rel=>exact⟨.inr (.inr (.inr (.inl ⟨rfl,R⟩))),o⟩
    case measure=>simp[intOf]
  ·have ab: ∀h,(⟨#[10,110,9,116,0,48,92,92,39,39,34,34]⟩:ByteArray)[7]'h=92:=λ_=>rfl;have I: ∀h,(⟨#[10,110,9,116,0,48,92,92,39,39,34,34]⟩:ByteArray)[6]'h=92:=λ_=>rfl;by_cases hd:d=92
   ·subst hd;have z:=O (show cA (92::92::r)=(92,2)from rfl);clear w X;go_wp2_with fail;refine aB 5 1 [] mixed Qb trivial ?_;repeat (refine sx ?_ (λM j=> ?_) ?_;rotate_left;(focus clear j;go_simp<;>with_reducible rfl);simp only[a8,a7,a6,aZ,aY])
    intro K a _;simp only[ae,aQ];have o:=O (G.out.trans a.un);clear a;go_wp2_with fail;go_ret2;exact⟨j' (by rw[z.out];rfl) (by rw[z.out];rfl),o.out⟩
   ·have A:((d.toNat:Int)==92)=false:=(ef d 92 Qa).trans (Ql.2 hd);have ac:((92:Int)==(d.toNat:Int))=false:=by rw[Ql]at A⊢;exact λe=>A e.symm
    have R:=O (show lB d=jI (kb.drop 4) d by rw[w.out];unfold kb;simp only[ae,au,jI];rw[if_neg hd]);clear hd;go_wp2_with fail;refine aB 5 1 [] mixed Qb trivial ?_;repeat (refine sx ?_ (λM j=> ?_) ?_;rotate_left;(focus clear j;go_simp<;>with_reducible rfl);simp only[a8,a7,a6,aZ,aY])
    intro K a _;simp only[ae,aQ];have o:=O (G.out.trans a.un);clear a;go_wp2_with fail;go_roundw
    case rel=>exact⟨.inr (.inr (.inr (.inr (.inl ⟨rfl,R⟩)))),o⟩
    case measure=>simp[intOf]
  ·have ab: ∀h,(⟨#[10,110,9,116,0,48,92,92,39,39,34,34]⟩:ByteArray)[9]'h=39:=λ_=>rfl;have I: ∀h,(⟨#[10,110,9,116,0,48,92,92,39,39,34,34]⟩:ByteArray)[8]'h=39:=λ_=>rfl;by_cases hd:d=39
   ·subst hd;have z:=O (show cA (92::39::r)=(39,2)from rfl);clear w X;go_wp2_with fail;refine aB 5 1 [] mixed Qb trivial ?_;repeat (refine sx ?_ (λM j=> ?_) ?_;rotate_left;(focus clear j;go_simp<;>with_reducible rfl);simp only[a8,a7,a6,aZ,aY])
    intro K a _;simp only[ae,aQ];have o:=O (G.out.trans a.un);clear a;go_wp2_with fail;go_ret2;exact⟨j' (by rw[z.out];rfl) (by rw[z.out];rfl),o.out⟩
   ·have A:((d.toNat:Int)==39)=false:=(ef d 39 Qa).trans (Ql.2 hd);have ac:((39:Int)==(d.toNat:Int))=false:=by rw[Ql]at A⊢;exact λe=>A e.symm
    have R:=O (show lB d=jI (kb.drop 5) d by rw[w.out];unfold kb;simp only[ae,au,jI];rw[if_neg hd]);clear hd;go_wp2_with fail;refine aB 5 1 [] mixed Qb trivial ?_;repeat (refine sx ?_ (λM j=> ?_) ?_;rotate_left;(focus clear j;go_simp<;>with_reducible rfl);simp only[a8,a7,a6,aZ,aY])
    intro K a _;simp only[ae,aQ];have o:=O (G.out.trans a.un);clear a;go_wp2_with fail;go_roundw
    case rel=>exact⟨.inr (.inr (.inr (.inr (.inr (.inl ⟨rfl,R⟩))))),o⟩
    case measure=>simp[intOf]
  ·have ab: ∀h,(⟨#[10,110,9,116,0,48,92,92,39,39,34,34]⟩:ByteArray)[11]'h=34:=λ_=>rfl;have I: ∀h,(⟨#[10,110,9,116,0,48,92,92,39,39,34,34]⟩:ByteArray)[10]'h=34:=λ_=>rfl;by_cases hd:d=34
   ·subst hd;have z:=O (show cA (92::34::r)=(34,2)from rfl);clear w X;go_wp2_with fail;refine aB 5 1 [] mixed Qb trivial ?_;repeat (refine sx ?_ (λM j=> ?_) ?_;rotate_left;(focus clear j;go_simp<;>with_reducible rfl);simp only[a8,a7,a6,aZ,aY])
    intro K a _;simp only[ae,aQ];have o:=O (G.out.trans a.un);clear a;go_wp2_with fail;go_ret2;exact⟨j' (by rw[z.out];rfl) (by rw[z.out];rfl),o.out⟩
   ·have A:((d.toNat:Int)==34)=false:=(ef d 34 Qa).trans (Ql.2 hd);have ac:((34:Int)==(d.toNat:Int))=false:=by rw[Ql]at A⊢;exact λe=>A e.symm
    have R:=O (show lB d=jI (kb.drop 6) d by rw[w.out];unfold kb;simp only[ae,au,jI];rw[if_neg hd]);clear hd;go_wp2_with fail;refine aB 5 1 [] mixed Qb trivial ?_;repeat (refine sx ?_ (λM j=> ?_) ?_;rotate_left;(focus clear j;go_simp<;>with_reducible rfl);simp only[a8,a7,a6,aZ,aY])
    intro K a _;simp only[ae,aQ];have o:=O (G.out.trans a.un);clear a;go_wp2_with fail;go_roundw
    case rel=>exact⟨.inr (.inr (.inr (.inr (.inr (.inr (⟨rfl,R⟩)))))),o⟩
    case measure=>simp[intOf]
  ·have z:=O (show cA (92::d::r)=(0,0) by have h:lB d=none:=w.out;simp[cA,h]);clear w X;go_wp2_with fail;go_ret2;exact⟨j' (by rw[z.out];rfl) (by rw[z.out];rfl),G.out⟩
theorem ub (l:List UInt8) (a:World) (G:l.length<=100000):
  Calls prog 181 #[.string (J l)] a λe w'=>e=.returned (.tuple #[.int .u8 ((cA l).1.toNat:Int),.int .i64 ((cA l).2:Int)])/\az a w':=by
 match l with
 | []=>
  go_enter func181,ntmps181;go_wp2_with fail;go_ret2;exact⟨rfl,aS a⟩
 |c::r=>
  have A:(J (c::r)).size=r.length+1:=by rw[bm];rfl
  have X:(0:Nat)<(J (c::r)).size:=by rw[A];omega
  have I:(J (c::r))[0]=c:=rfl;by_cases h1:c.toNat<32
  ·have j:=O (show cA (c::r)=(0,0) by simp[cA,h1]);have o:(c.toNat:Int)<32:=Qa
   go_enter func181,ntmps181;go_wp2_with fail;go_ret2;exact⟨j' (by rw[j.out];rfl) (by rw[j.out];rfl),aS a⟩
  by_cases h2:126<c.toNat
  ·have j:=O (show cA (c::r)=(0,0) by simp[cA,h2]);have o: ¬(c.toNat:Int)<32:=Qa
   have z:(126:Int)<c.toNat:=Qa
   go_enter func181,ntmps181;go_wp2_with fail;go_ret2;exact⟨j' (by rw[j.out];rfl) (by rw[j.out];rfl),aS a⟩
  have o:decide ((c.toNat:Int)<32)=false:=Qh
  have z:decide ((126:Int)<c.toNat)=false:=Qh
  by_cases h3:c=92
  ·subst h3
   match r with
   | []=>
    clear o z;go_enter func181,ntmps181;go_wp2_with fail
    go_loopw [4] (λw wr=>w=.int .i64 1/\wr=a) (λw _=>0)
    case atStart=>exact⟨rfl,rfl⟩
    case round=>
     obtain⟨rfl,rfl⟩:=hrel;go_wp2_with fail;go_ret2;exact⟨rfl,aS _⟩
   |d::r'=>exact Bs d r' a (by simp at G;omega)
  ·have j:=O (show cA (c::r)=(c,1) by simp only[cA];rw[if_neg Qa,if_pos h3]);have V:((c.toNat:Int) !=92)=true:=by
    have K:((c.toNat:Int)==92)=false:=(ef c 92 Qa).trans (Ql.2 h3);rw[bne,K];rfl
   have R: ¬(c.toNat:Int)<32:=Qa
   have M: ¬(126:Int)<c.toNat:=Qa
   clear h3;go_enter func181,ntmps181;go_wp2_with fail;go_ret2;exact⟨j' (by rw[j.out]) (by rw[j.out];rfl),aS a⟩
def Z:=@az.alloc
def aw:=@aU.new
def kC:=@Sl.none_
def kE:=@az.drew
end
end Go.Proofs.YtddomeddabfinaaGreatDoor
