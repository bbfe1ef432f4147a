/- Parts of the proof. -/
import Derived.Laws.CopyOwn
import Derived.Test.YtoedmpgicdekmaaGreatDoorCo21
set_option maxRecDepth 100000
set_option maxHeartbeats 8000000
set_option linter.all false
namespace Go.Proofs.YtoedmpgicdekmaaGreatDoor
open Go.Proofs.Tryz
section
open Go.RowKit
def wM (L:List UInt8) (off:Nat) (b:List UInt8):List UInt8:=L.take off++(b++L.drop (off+b.length))
def Rw (w:World) (g:Nat) (e:TypeId) (l:List UInt8):Prop:=w.heap[g]? =some (.cells (iM l).toArray e (0,0))
section
variable {w w':World} {g:Nat} {e:TypeId} {l:List UInt8}
theorem Rw.lt (a:Rw w g e l):g<w.heap.size:=(Array.getElem?_eq_some_iff.1 a).1
theorem Rw.ext (a:Rw w g e l) (d:au w w'):Rw w' g e l:=(d.obj a.lt).trans a
theorem Rw.grown {row:Option Nat} (a:Rw w g e l) (h:w.grownBy w' row) (d:some g≠row):Rw w' g e l:=(h.block g a.lt d).trans a
end
theorem zh {P:Program} {t e:TypeId} (u:mo P t e) (d h:IntKind) (n:Nat) (A:n<=1073741824) (a:World):
  ∃w',(Instr.makeSlice t (.int d (n:Int)) (.int h (n:Int))).run P a=.ok (.slice (some ⟨a.heap.size,0,none⟩) n n) w'/\Rw w' a.heap.size e (List.replicate n 0)/\au a w'/\w'.heap.size=a.heap.size+1:=by
 obtain⟨i,hi,z,y,w⟩:=info_parts u.info;have o:=run_make (P:=P) a t e i (.int .u8 0) u.under hi z d h n n J J (by rw[w];omega) J;simp only[bY]at o;refine⟨_,o,?_,aa a _,World.size_alloc _ _⟩;rw[y];simp only[lP];have:madeCells (Value.int IntKind.u8 0).cells n=(iM (List.replicate n 0)).toArray:=by
  unfold madeCells;apply Array.ext
  ·simp[iM]
  ·intro j G F;simp[iM,rz,Value.cells,Nat.mod_one]
 rw[this];exact heap_alloc_new a _
theorem sM {P:Program} {a:World} {ops:Array Oper} {rest:List Oper} {d:Oper} {h:Act} {Q:Exit->Act->World->Prop} {t e:TypeId} (R:mo P t e) (F:d.guard=none) (s c:Operand) (z:d.op=.makeSlice t s c)
  (n:Nat) (A:n<=1073741824) (o u:IntKind) (w:h.eval s=.int o (n:Int)) (G:h.eval c=.int u (n:Int))
  (H: ∀w',Rw w' a.heap.size e (List.replicate n 0)->au a w'->w'.heap.size=a.heap.size+1->wpList P ops Q rest (h.put d.dst (.slice (some ⟨a.heap.size,0,none⟩) n n)) w'):wpList P ops Q (d::rest) h a:=by
 obtain⟨w',y,I,aa,X⟩:=zh (P:=P) R o u n A a;refine wpList_plain F λK V=> ?_;unfold Oper.wp execOp;simp only[z,Sem.run_bind,Sem.run_pure,w,G,y,Result.andThen_ok];exact V _ _ (H w' I aa X)
theorem sW (L:List UInt8) (off:Nat):wM L off []=L:=by simp[wM]
theorem sN {P:Program} {d:World} {ops:Array Oper} {rest:List Oper} {h:Oper} {w:Act} {Q:Exit->Act->World->Prop} {t e:TypeId} (G:mo P t e) (I:h.guard=none) (u s:Operand)
  (X:h.op=.call {callee:=.builtin .copy,args:= #[u,s],argTypes:= #[t,t]}) (g off a H:Nat) (F:w.eval u=.slice (some ⟨g,off,none⟩) a H) (L:List UInt8) (A:Rw d g e L)
  (ad:Option Addr) (c:Nat) (m:List UInt8) (y:w.eval s=.slice ad m.length c) (aj:Sl d ad c m) (ah:off+a<=L.length)
  (R: ∀w' (k:Nat),Rw w' g e (wM L off (m.take a))->d.grownBy w' (some g)->wpList P ops Q rest (w.put h.dst (goInt k)) w'):wpList P ops Q (h::rest) w d:=by
 have V:(P.info? e).map (·.size)=some 1:=by
  obtain⟨i,hi,al,ae,Z⟩:=info_parts G.info;rw[hi];simp[ae]
 by_cases h0:m.take a=[]
 ·refine wpList_copy_nothing I u s t t X e G.under V _ _ _ _ _ _ F y ?_ ?_
  ·have:=congrArg List.length h0;rw[bG]at this;simp only[ai]at this;show min m.length a=0;omega
  ·refine R d 0 ?_ (World.grownBy.refl d _);rw[h0,sW];exact A
 ·rcases aj.rd with rfl|⟨b,o',rfl,_,hc⟩
  ·simp at h0
  ·have z:(iM (m.take a)).length=min m.length a:=by rw[jT,bG,Nat.min_comm]
   refine wpList_copy_own I u s t t X e G.under V g off a H ⟨b,o',none⟩ m.length c F y _ e A (iM (m.take a)) z (λj v o=> ?_) ?_ (λv o=> ?_) ?_
   ·have aa:j<(m.take a).length:=by have:=(List.getElem?_eq_some_iff.1 o).1;simpa[iM]using this
    have ag:j<m.length:=by rw[bG]at aa;omega
    rw[Addr.add_lit,hc j ag,<-o];simp only[iM,dC];rw[aH aa];simp[j5,rz]
   ·rw[z];simp only[gd,jT];omega
   ·obtain⟨x,_,rfl⟩:=List.mem_map.1 o;rfl
   ·refine R _ _ ?_ ⟨rfl,rfl,rfl,by simp,λk _ af=>setRow_other d g k _ (λe=>af (by rw[e]))⟩;have:=setRow_heap d g _ ((iM L).toArray.toList.take off++(iM (m.take a)++(iM L).toArray.toList.drop (off+(iM (m.take a)).length))).toArray e _ A;unfold Rw;rw[this];clear this R F y ah z h0;generalize m.take a=q;simp only[wM,iM,fV,List.map_take,List.map_drop,jj]
end
section
end
section
open Go.RowKit
end
section
def NZ {α:Type} (x:Except Er α):Prop:=match x with
 | .ok _=>True
 | .error e=>e.2≠0
theorem NZ.then {d h:Type} {x:Except Er d} {k:d->Except Er h} (u:NZ x) (o: ∀a,NZ (k a)):NZ (CR.then x k):=by
 cases x with
 |error e=>exact u
 |ok a=>exact o a
theorem yh {a:Type} (d:a):NZ (.ok d:Except Er a):=trivial
theorem eZ {d:Type} {c:Prop} [Decidable c] {x a:Except Er d} (o:NZ x) (h:NZ a):NZ (if c then x else a):=by split<;>assumption
theorem BU (g:Gl) (lo:Ls) (s:List UInt8):NZ (rj g lo s):=eZ trivial (eZ (by show(16:Int)≠0;decide) (by show(15:Int)≠0;decide))
theorem xg (g:Gl) (lo:Ls) (s:List UInt8):NZ (mg g lo s):=eZ trivial (eZ (by show(16:Int)≠0;decide) (by show(15:Int)≠0;decide))
mutual
theorem Ij (g:Gl) (lo:Ls): ∀x:Ex,NZ (qj g lo x)
 | .mk k op nm tx v a=>by
  rw[qj];refine eZ (BU _ _ _) (eZ ((xg _ _ _).then λ_=>El g lo a) (eZ (by show(16:Int)≠0;decide) (eZ ?_ (eZ (El g lo a) trivial))));split
  ·show(15:Int)≠0;decide
  ·exact eZ (Ik g lo nm (fX nm) 0 a) (by show(16:Int)≠0;decide)
theorem El (g:Gl) (lo:Ls): ∀l:List Ex,NZ (p8 g lo l)
 | []=>trivial
 |y::r=>by rw[p8];exact(Ij g lo y).then λ_=>El g lo r
theorem Ik (g:Gl) (lo:Ls) (nm:List UInt8) (b:Bi): ∀(i:Nat) (l:List Ex),NZ (rK g lo nm b i l)
 | _,[]=>trivial
 |i,y::r=>by
  rw[rK];exact(eZ (Ij g lo y) (eZ (by show(16:Int)≠0;decide) (eZ (xg _ _ _) (yh _)))).then λ_=>Ik g lo nm b (i+1) r
end
mutual
theorem Ii (g:Gl): ∀(x:St) (lo:Ls),NZ (vO g lo x)
 | .mk k nm ex bd el,lo=>by
  rw[vO];exact(eZ (BU _ _ _) (eZ (xg _ _ _) (yh _))).then λ_=>(El g lo ex).then λ_=>(eZ (eZ (by show(9:Int)≠0;decide) (yh _)) (yh _)).then λd=>(yi g bd d).then λa=>yi g el a
theorem yi (g:Gl): ∀(l:List St) (lo:Ls),NZ (gV g lo l)
 | [],lo=>trivial
 |s::r,lo=>by rw[gV];exact(Ii g s lo).then λa=>yi g r a
end
theorem FO (g:Gl): ∀(l:List (List UInt8)) (lo:Ls),NZ (pt g lo l)
 | [],lo=>trivial
 |s::r,lo=>by rw[pt];exact eZ (by show(9:Int)≠0;decide) (FO g r _)
theorem yf: ∀(l:List Vr) (g:Gl),NZ (oW g l)
 | [],g=>trivial
 |v::r,g=>by rw[oW];exact eZ (by show(9:Int)≠0;decide) (yf r _)
theorem yg: ∀(l:List Fc) (g:Gl),NZ (nf g l)
 | [],g=>trivial
 |v::r,g=>by rw[nf];exact eZ (by show(9:Int)≠0;decide) (yg r _)
theorem FP (g:Gl): ∀(l:List Fc),NZ (ks g l)
 | []=>trivial
 |f::r=>by rw[ks];exact(FO g _ _).then λlo=>(yi g _ lo).then λ_=>FP g r
theorem BV: ∀(l:List Fc),NZ (gk l)
 | []=>trivial
 |f::r=>by rw[gk];exact eZ (by show(6:Int)≠0;decide) (BV r)
theorem GC (p:Pg):NZ (lB p):=by
 unfold lB sT;refine NZ.then ((yf _ _).then λg=>(yg _ g).then λg=> ?_) λg=>(FP g _).then λ_=>BV _;split
 ·show(_:Int)≠0;decide
 ·exact eZ (by show(16:Int)≠0;decide) trivial
end
section
open Go.RowKit
theorem wk.mono {d:World} {P Q:Nat->Prop} {v:Value} {z:Rs} (h:wk d P v z) (y: ∀b,P b->b<d.heap.size->Q b):wk d Q v z:=by
 obtain⟨ag,c,rfl,h⟩:=h;refine⟨ag,c,rfl,h.imp id fun⟨H,I,b,V,ha,aa,w,af,ae,X⟩=>⟨H,I,b,V,ha,y b aa w,w,af,ae,λi hi=> ?_⟩⟩;obtain⟨G,F,o,A⟩:=X i hi;refine⟨G,F,o,λb2 R e u=>y b2 (A b2 R e u) ?_⟩;rcases o.rd with ad|⟨b3,o3,a,hb3,_⟩
 ·exact absurd ad u
 ·rw[e]at a;injection a with a;injection a with a _;omega
theorem Kk (u b c o h c':Int) (a:World):(Op.equalIn 10000 47 (.agg #[.int .i64 u,.int .i64 b,.int .i64 c]) (.agg #[.int .i64 o,.int .i64 h,.int .i64 c'])).run prog a=.ok ((u==o)&&((b==h)&&(c==c'))) a:=by
 obtain⟨i,hi⟩: ∃i,prog.info? 3=some i:=Option.isSome_iff_exists.1 Qb;have z:prog.plainKey 3=true:=Qb
 have R:prog.cellsOf 3=1:=Qb
 rw[show(10000:Nat)=9999+1 from rfl,run_equalIn_array a 9999 _ _ underlying47 hi,R];have w: ∀(xs d:Array Value) (j:Nat) (p q:Int) (y:List Nat),xs[j]? =some (.int .i64 p)->d[j]? =some (.int .i64 q)->
   (Op.eqItems 9999 3 1 xs d (j::y)).run prog a=if(p==q)then(Op.eqItems 9999 3 1 xs d y).run prog a else .ok false a:=λxs d j p q y X V=>by
  have G:=run_part_plain a z (off:=j*1) (xs:=xs) (by rw[lP];exact X);have F:=run_part_plain a z (off:=j*1) (xs:=d) (by rw[lP];exact V);have A:=run_equalIn_int a 9998 3 .i64 .i64 p q underlying3;simp only[Op.eqItems,Sem.run_bind,G,F,A,Result.andThen_ok]
  cases p==q<;>simp
 show(Op.eqItems 9999 3 1 _ _ [0,1,2]).run prog a=_;rw[w _ _ 0 u o _ rfl rfl,w _ _ 1 b h _ rfl rfl,w _ _ 2 c c' _ rfl rfl]
 cases u==o<;>cases b==h<;>cases c==c'<;>simp[Op.eqItems]
theorem yu {a:World} {h:Option Addr} {d n:Nat} {l:List UInt8} (o:l.length=n) (u:Sl a h d l):(Go.convert 36 9 (.slice h n d)).run prog a=.ok (.string (Z l)) a:=by
 subst o;exact u.convert underlying36 underlying5 underlying9
theorem uN {a b:Bool} (d:a=b):Ending.returned (.bool a)=.returned (.bool b):=by rw[d]
end
end Go.Proofs.YtoedmpgicdekmaaGreatDoor
