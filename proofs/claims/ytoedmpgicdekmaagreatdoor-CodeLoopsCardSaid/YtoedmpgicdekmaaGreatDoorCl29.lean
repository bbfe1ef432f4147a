/- Parts of the proof. -/
import Derived.Test.YtoedmpgicdekmaaGreatDoorCl00
import Derived.Laws.BitsAllLaws
import Derived.Test.YtoedmpgicdekmaaGreatDoorCl02
set_option maxRecDepth 100000
set_option maxHeartbeats 8000000
set_option linter.unusedVariables false
set_option linter.unusedSimpArgs false
set_option linter.defProp false
set_option linter.unusedSectionVars false
namespace Go.Proofs.YtoedmpgicdekmaaGreatDoor
open Go.RowKit
def Am (h:UInt64) (b:UInt8):UInt64:=let k:=(h^^^b.toUInt64)*0xD1B54A32D192ED03;k^^^(k>>>29)
def qZ (h:UInt64) (l:List UInt8):UInt64:=l.foldl Am h
theorem tY (a:UInt64) (l m:List UInt8):qZ a (l++m)=qZ (qZ a l) m:=List.foldl_append
theorem xd (a b:UInt64):bits .xor .u64 (a.toNat:Int) (b.toNat:Int)=((a^^^b).toNat:Int):=by
 rw[u64_xor_nat _ _ a.toNat_lt b.toNat_lt,UInt64.toNat_xor]
theorem CT (b:UInt8):IntKind.u64.wrap (b.toNat:Int)=(b.toUInt64.toNat:Int):=by
 rw[IntKind.wrap_u64,UInt8.toNat_toUInt64];have:=b.toNat_lt;omega
theorem DB (a:UInt64):IntKind.u64.wrap ((a.toNat:Int)*15111065706836454659)=((a*0xD1B54A32D192ED03).toNat:Int):=by
 rw[IntKind.wrap_u64,UInt64.toNat_mul];have:(0xD1B54A32D192ED03:UInt64).toNat=15111065706836454659:=Qd
 rw[this];omega
theorem Db (a:UInt64):(a.toNat:Int)/(536870912:Int)=((a>>>29).toNat:Int):=by
 rw[UInt64.toNat_shiftRight];have:(29:UInt64).toNat%64=29:=Qd
 rw[this,Nat.shiftRight_eq_div_pow];omega
theorem Ak (a:UInt64) (b:UInt8):
  bits .xor .u64 (IntKind.u64.wrap (bits .xor .u64 (a.toNat:Int) (IntKind.u64.wrap (b.toNat:Int))*15111065706836454659)) (IntKind.u64.wrap (bits .xor .u64 (a.toNat:Int) (IntKind.u64.wrap (b.toNat:Int))*15111065706836454659)/(536870912:Int))=((Am a b).toNat:Int):=by
 rw[CT,xd,DB,Db,xd];rfl
def qF (N:Int) (i:Nat):UInt8:=UInt8.ofNat (N/2^(8*i)%256).toNat
def f8 (N:Int):List UInt8:=(List.range 8).map (qF N)
theorem pp (N:Int) (i:Nat):N/2^(8*i)%256=((qF N i).toNat:Int):=by
 unfold qF;rw[eC];omega
theorem dV (N:Int):(f8 N).length=8:=by simp[f8]
theorem wK (N:Int) {i:Nat} (a:i<(f8 N).length):(f8 N)[i]=qF N i:=by simp[f8]
theorem pj (N:Int) {k:Nat} (a:k<8):(f8 N).take (k+1)=(f8 N).take k++[qF N k]:=by
 rw[aT (by rw[dV];exact a),wK]
theorem qx (N:Int):(f8 N).take 8=f8 N:=bO (by rw[dV];omega)
theorem gT.below {d:World} {base:Nat} {e:TypeId} {v:Value} {l:List UInt8} (h:gT d base e v l): ∀k,v.ownBlock=some k->base<=k:=λk a=>by
 rcases h.2 with⟨rfl,_⟩|⟨g,cap,cur,rfl,hb,_⟩
 ·cases a
 ·injection a with a;have a:g=k:=a;omega
theorem p9 (a:World) (e:TypeId) (b:UInt8):Sl (a.alloc (.cells #[.int .u8 (b.toNat:Int)] e)) (some ⟨a.heap.size,0,none⟩) 1 [b]:=
 ⟨by simp,by simp[maxLen],λh=>(by cases h), .inr ⟨a.heap.size,0,rfl,by simp,λi d=>by
  have:i=0:=by simp at d;omega
  subst this;rw[(aq a e #[.int .u8 (b.toNat:Int)]).cell]
  rfl⟩⟩
def kq:=@gT.below
end Go.Proofs.YtoedmpgicdekmaaGreatDoor
