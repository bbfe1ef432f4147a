/- Parts of the proof. -/
import Derived.Laws.CopyOwn
import Derived.Test.YtoedmpgicdekmaaGreatDoorCl04
import Derived.Lib.ConvBytes
import Derived.Test.YtoedmpgicdekmaaGreatDoorCl21
import Derived.Deep.RegionWith
import Derived.Test.YtoedmpgicdekmaaGreatDoorCl17
import Derived.Test.YtoedmpgicdekmaaGreatDoorCl00
import Derived.ChangeKeysEq
set_option maxRecDepth 100000
set_option maxHeartbeats 8000000
set_option linter.unusedVariables false
set_option linter.unusedSimpArgs false
set_option linter.unusedSectionVars false
namespace Go.Proofs.YtoedmpgicdekmaaGreatDoor
open Go.Proofs.Tryz
section
open Go.RowKit
def vT (L:List UInt8) (off:Nat) (b:List UInt8):List UInt8:=L.take off++(b++L.drop (off+b.length))
def Rw (w:World) (g:Nat) (e:TypeId) (l:List UInt8):Prop:=w.heap[g]? =some (.cells (im l).toArray e (0,0))
section
variable {w w':World} {g:Nat} {e:TypeId} {l:List UInt8}
theorem Rw.lt (a:Rw w g e l):g<w.heap.size:=(Array.getElem?_eq_some_iff.1 a).1
theorem Rw.ext (a:Rw w g e l) (d:au w w'):Rw w' g e l:=(d.obj a.lt).trans a
theorem Rw.grown {row:Option Nat} (a:Rw w g e l) (h:w.grownBy w' row) (d:some g≠row):Rw w' g e l:=(h.block g a.lt d).trans a
end
theorem yt {P:Program} {t e:TypeId} (o:lU P t e) (a d:IntKind) (n:Nat) (F:n<=1073741824) (w:World):
  ∃w',(Instr.makeSlice t (.int a (n:Int)) (.int d (n:Int))).run P w= .ok (.slice (some ⟨w.heap.size,0,none⟩) n n) w'/\Rw w' w.heap.size e (List.replicate n 0)/\au w w'/\w'.heap.size=w.heap.size+1:=by
 obtain⟨i,A,z,y,u⟩:=info_parts o.info;have h:=run_make (P:=P) w t e i (.int .u8 0) o.under A z a d n n Qa Qa (by rw[u];omega) Qa;simp only[bW]at h;refine⟨_,h,?_,aa w _,World.size_alloc _ _⟩;rw[y];simp only[lr];have:madeCells (Value.int IntKind.u8 0).cells n=(im (List.replicate n 0)).toArray:=by
  unfold madeCells;apply Array.ext
  ·simp[im]
  ·intro j H G;simp[im,qQ,Value.cells,Nat.mod_one]
 rw[this];exact heap_alloc_new w _
theorem r_ {P:Program} {w:World} {ops:Array Oper} {rest:List Oper} {a:Oper} {d:Act} {Q:Exit->Act->World->Prop} {t e:TypeId} (H:lU P t e) (F:a.guard=none) (s c:Operand) (z:a.op= .makeSlice t s c)
  (n:Nat) (A:n<=1073741824) (h o:IntKind) (u:d.eval s= .int h (n:Int)) (G:d.eval c= .int o (n:Int))
  (R: ∀w',Rw w' w.heap.size e (List.replicate n 0)->au w w'->w'.heap.size=w.heap.size+1->wpList P ops Q rest (d.put a.dst (.slice (some ⟨w.heap.size,0,none⟩) n n)) w'):wpList P ops Q (a::rest) d w:=by
 obtain⟨w',y,M,K,J⟩:=yt (P:=P) H h o n A w;refine wpList_plain F λV I=> ?_;unfold Oper.wp execOp;simp only[z,Sem.run_bind,Sem.run_pure,u,G,y,Result.andThen_ok];exact I _ _ (R w' M K J)
theorem sm (L:List UInt8) (off:Nat):vT L off []=L:=by simp[vT]
theorem sa {P:Program} {w:World} {ops:Array Oper} {rest:List Oper} {d:Oper} {u:Act} {Q:Exit->Act->World->Prop} {t e:TypeId} (G:lU P t e) (M:d.guard=none) (o s:Operand)
  (J:d.op= .call {callee:= .builtin .copy,args:= #[o,s],argTypes:= #[t,t]}) (g off a R:Nat) (F:u.eval o= .slice (some ⟨g,off,none⟩) a R) (L:List UInt8) (A:Rw w g e L)
  (V:Option Addr) (c:Nat) (m:List UInt8) (y:u.eval s= .slice V m.length c) (ad:Sl w V c m) (ac:off+a<=L.length)
  (H: ∀w' (k:Nat),Rw w' g e (vT L off (m.take a))->w.grownBy w' (some g)->wpList P ops Q rest (u.put d.dst (goInt k)) w'):wpList P ops Q (d::rest) u w:=by
 have I:(P.info? e).map (·.size)=some 1:=by
  obtain⟨i,ab,af,X,ae⟩:=info_parts G.info;rw[ab];simp[X]
 by_cases h0:m.take a=[]
 ·refine wpList_copy_nothing M o s t t J e G.under I _ _ _ _ _ _ F y ?_ ?_
  ·have:=congrArg List.length h0;rw[bC]at this;simp only[ai]at this;show min m.length a=0;omega
  ·refine H w 0 ?_ (World.grownBy.refl w _);rw[h0,sm];exact A
 ·rcases ad.rd with rfl|⟨b,o',rfl,_,hc⟩
  ·simp at h0
  ·have z:(im (m.take a)).length=min m.length a:=by rw[jA,bC,Nat.min_comm]
   refine wpList_copy_own M o s t t J e G.under I g off a R ⟨b,o',none⟩ m.length c F y _ e A (im (m.take a)) z (λj v h=> ?_) ?_ (λv h=> ?_) ?_
   ·have K:j<(m.take a).length:=by have:=(List.getElem?_eq_some_iff.1 h).1;simpa[im]using this
    have aa:j<m.length:=by rw[bC]at K;omega
    rw[Addr.add_lit,hc j aa,<-h];simp only[im,dw];rw[aI K];simp[jJ,qQ]
   ·rw[z];simp only[fQ,jA];omega
   ·obtain⟨x,_,rfl⟩:=List.mem_map.1 h;rfl
   ·refine H _ _ ?_ ⟨rfl,rfl,rfl,by simp,λk _ Z=>setRow_other w g k _ (λe=>Z (by rw[e]))⟩;have:=setRow_heap w g _ ((im L).toArray.toList.take off++(im (m.take a)++(im L).toArray.toList.drop (off+(im (m.take a)).length))).toArray e _ A;unfold Rw;rw[this];clear this H F y ac z h0;generalize m.take a=q;simp only[vT,im,fG,List.map_take,List.map_drop,iR]
end
section
end
section
open Go.RowKit
end
section
end
section
open Go.RowKit
theorem tL.mono {w:World} {P Q:Nat->Prop} {v:Value} {z:Rs} (d:tL w P v z) (y: ∀b,P b->b<w.heap.size->Q b):tL w Q v z:=by
 obtain⟨ab,c,rfl,d⟩:=d;refine⟨ab,c,rfl,d.imp id fun⟨V,R,b,I,ha,M,u,aa,Z,K⟩=>⟨V,R,b,I,ha,y b M u,u,aa,Z,λi J=> ?_⟩⟩;obtain⟨G,F,h,A⟩:=K i J;refine⟨G,F,h,λb2 H e o=>y b2 (A b2 H e o) ?_⟩;rcases h.rd with X|⟨b3,o3,a,hb3,_⟩
 ·exact absurd X o
 ·rw[e]at a;injection a with a;injection a with a _;omega
theorem JP (o b c h d c':Int) (w:World):(Op.equalIn 10000 47 (.agg #[.int .i64 o, .int .i64 b, .int .i64 c]) (.agg #[.int .i64 h, .int .i64 d, .int .i64 c'])).run prog w= .ok ((o==h)&&((b==d)&&(c==c'))) w:=by
 obtain⟨i,H⟩: ∃i,prog.info? 3=some i:=Option.isSome_iff_exists.1 Qb;have z:prog.plainKey 3=true:=Qb
 have I:prog.cellsOf 3=1:=Qb
 rw[show(10000:Nat)=9999+1 from rfl,run_equalIn_array w 9999 _ _ underlying47 H,I];have u: ∀(xs a:Array Value) (j:Nat) (p q:Int) (y:List Nat),xs[j]? =some (.int .i64 p)->a[j]? =some (.int .i64 q)->
   (Op.eqItems 9999 3 1 xs a (j::y)).run prog w=if(p==q)then(Op.eqItems 9999 3 1 xs a y).run prog w else .ok false w:=λxs a j p q y K J=>by
  have G:=run_part_plain w z (off:=j*1) (xs:=xs) (by rw[lr];exact K);have F:=run_part_plain w z (off:=j*1) (xs:=a) (by rw[lr];exact J);have A:=run_equalIn_int w 9998 3 .i64 .i64 p q underlying3;simp only[Op.eqItems,Sem.run_bind,G,F,A,Result.andThen_ok]
  cases p==q<;>simp
 show(Op.eqItems 9999 3 1 _ _ [0,1,2]).run prog w=_;rw[u _ _ 0 o h _ rfl rfl,u _ _ 1 b d _ rfl rfl,u _ _ 2 c c' _ rfl rfl]
 cases o==h<;>cases b==d<;>cases c==c'<;>simp[Op.eqItems]
theorem Hv {a b:Bool} (d:a=b):Ending.returned (.bool a)= .returned (.bool b):=by rw[d]
end
end Go.Proofs.YtoedmpgicdekmaaGreatDoor
