/-
  Parts of the proof: SumP.
-/
import Derived.Test.YtoedmpgicdekmaaGreatDoorCq00
import Derived.Laws.BitsAllLaws
import Derived.Test.YtoedmpgicdekmaaGreatDoorCq02
set_option maxRecDepth 100000
set_option maxHeartbeats 8000000
set_option linter.unusedVariables false
set_option linter.unusedSimpArgs false
set_option linter.defProp false
set_option linter.unusedSectionVars false
namespace Go.Proofs.YtoedmpgicdekmaaGreatDoor
open Go.RowKit
def yj (h:UInt64) (b:UInt8):UInt64:=let k:=(h^^^b.toUInt64)*0xD1B54A32D192ED03;k^^^(k>>>29)
def pm (h:UInt64) (l:List UInt8):UInt64:=l.foldl yj h
theorem rN (h:UInt64) (l m:List UInt8):pm h (l++m)=pm (pm h l) m:=List.foldl_append
theorem uG (a b:UInt64):bits .xor .u64 (a.toNat:Int) (b.toNat:Int)=((a^^^b).toNat:Int):=by
 rw[u64_xor_nat _ _ a.toNat_lt b.toNat_lt,UInt64.toNat_xor]
theorem AE (b:UInt8):IntKind.u64.wrap (b.toNat:Int)=(b.toUInt64.toNat:Int):=by
 rw[IntKind.wrap_u64,UInt8.toNat_toUInt64];have:=b.toNat_lt;omega
theorem Bs (a:UInt64):IntKind.u64.wrap ((a.toNat:Int)*15111065706836454659)=((a*0xD1B54A32D192ED03).toNat:Int):=by
 rw[IntKind.wrap_u64,UInt64.toNat_mul];have:(0xD1B54A32D192ED03:UInt64).toNat=15111065706836454659:=by decide
 rw[this];omega
theorem AP (a:UInt64):(a.toNat:Int)/(536870912:Int)=((a>>>29).toNat:Int):=by
 rw[UInt64.toNat_shiftRight];have:(29:UInt64).toNat%64=29:=by decide
 rw[this,Nat.shiftRight_eq_div_pow];omega
theorem yh (h:UInt64) (b:UInt8):
  bits .xor .u64 (IntKind.u64.wrap (bits .xor .u64 (h.toNat:Int) (IntKind.u64.wrap (b.toNat:Int))*15111065706836454659)) (IntKind.u64.wrap (bits .xor .u64 (h.toNat:Int) (IntKind.u64.wrap (b.toNat:Int))*15111065706836454659)/(536870912:Int))=((yj h b).toNat:Int):=by
 rw[AE,uG,Bs,AP,uG];rfl
def oL (N:Int) (i:Nat):UInt8:=UInt8.ofNat (N/2^(8*i)%256).toNat
def fl (N:Int):List UInt8:=(List.range 8).map (oL N)
theorem nc (N:Int) (i:Nat):N/2^(8*i)%256=((oL N i).toNat:Int):=by
 unfold oL;rw[dq];omega
theorem dA (N:Int):(fl N).length=8:=by simp[fl]
theorem uq (N:Int) {i:Nat} (h:i<(fl N).length):(fl N)[i]=oL N i:=by simp[fl]
theorem m_ (N:Int) {k:Nat} (h:k<8):(fl N).take (k+1)=(fl N).take k++[oL N k]:=by
 rw[aM (by rw[dA];exact h),uq]
theorem oE (N:Int):(fl N).take 8=fl N:=bh (by rw[dA];omega)
theorem fZ.below {w:World} {base:Nat} {e:TypeId} {v:Value} {l:List UInt8} (h:fZ w base e v l): ∀k,v.ownBlock=some k->base<=k:=fun k hk=>by
 rcases h.2 with⟨rfl,_⟩|⟨g,cap,cur,rfl,hb,_⟩
 ·cases hk
 ·injection hk with hk;have hk:g=k:=hk;omega
theorem nV (w:World) (e:TypeId) (b:UInt8):Sl (w.alloc (.cells #[.int .u8 (b.toNat:Int)] e)) (some ⟨w.heap.size,0,none⟩) 1 [b]:=
 ⟨by simp,by simp[maxLen],fun h=>(by cases h), .inr ⟨w.heap.size,0,rfl,by simp,fun i hi=>by
  have:i=0:=by simp at hi;omega
  subst this;rw[(aw w e #[.int .u8 (b.toNat:Int)]).cell]
  rfl⟩⟩
def ji:=@fZ.below
end Go.Proofs.YtoedmpgicdekmaaGreatDoor
