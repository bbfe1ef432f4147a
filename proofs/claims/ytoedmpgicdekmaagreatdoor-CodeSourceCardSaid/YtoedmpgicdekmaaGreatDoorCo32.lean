/- Parts of the proof. -/
import Derived.Test.YtoedmpgicdekmaaGreatDoorCo26
set_option maxRecDepth 100000
set_option maxHeartbeats 8000000
set_option linter.all false
namespace Go.Proofs.YtoedmpgicdekmaaGreatDoor
open Go.Proofs.Tryz
section
open Go.RowKit
def Bc (h:UInt64) (b:UInt8):UInt64:=let k:=(h^^^b.toUInt64)*0xD1B54A32D192ED03;k^^^(k>>>29)
def rG (h:UInt64) (l:List UInt8):UInt64:=l.foldl Bc h
theorem uA (a:UInt64) (l m:List UInt8):rG a (l++m)=rG (rG a l) m:=List.foldl_append
theorem xS (a b:UInt64):bits .xor .u64 (a.toNat:Int) (b.toNat:Int)=((a^^^b).toNat:Int):=by
 rw[u64_xor_nat _ _ a.toNat_lt b.toNat_lt,UInt64.toNat_xor]
theorem DH (b:UInt8):IntKind.u64.wrap (b.toNat:Int)=(b.toUInt64.toNat:Int):=by
 rw[IntKind.wrap_u64,UInt8.toNat_toUInt64];have:=b.toNat_lt;omega
theorem Et (a:UInt64):IntKind.u64.wrap ((a.toNat:Int)*15111065706836454659)=((a*0xD1B54A32D192ED03).toNat:Int):=by
 rw[IntKind.wrap_u64,UInt64.toNat_mul];have:(0xD1B54A32D192ED03:UInt64).toNat=15111065706836454659:=Qd
 rw[this];omega
theorem DZ (a:UInt64):(a.toNat:Int)/(536870912:Int)=((a>>>29).toNat:Int):=by
 rw[UInt64.toNat_shiftRight];have:(29:UInt64).toNat%64=29:=Qd
 rw[this,Nat.shiftRight_eq_div_pow];omega
theorem Ba (a:UInt64) (b:UInt8):
  bits .xor .u64 (IntKind.u64.wrap (bits .xor .u64 (a.toNat:Int) (IntKind.u64.wrap (b.toNat:Int))*15111065706836454659)) (IntKind.u64.wrap (bits .xor .u64 (a.toNat:Int) (IntKind.u64.wrap (b.toNat:Int))*15111065706836454659)/(536870912:Int))=((Bc a b).toNat:Int):=by
 rw[DH,xS,Et,DZ,xS];rfl
def rm (N:Int) (i:Nat):UInt8:=UInt8.ofNat (N/2^(8*i)%256).toNat
def gA (N:Int):List UInt8:=(List.range 8).map (rm N)
theorem pW (N:Int) (i:Nat):N/2^(8*i)%256=((rm N i).toNat:Int):=by
 unfold rm;rw[eL];omega
theorem ea (N:Int):(gA N).length=8:=by simp[gA]
theorem xC (N:Int) {i:Nat} (a:i<(gA N).length):(gA N)[i]=rm N i:=by simp[gA]
theorem pS (N:Int) {k:Nat} (a:k<8):(gA N).take (k+1)=(gA N).take k++[rm N k]:=by
 rw[aT (by rw[ea];exact a),xC]
theorem qY (N:Int):(gA N).take 8=gA N:=bQ (by rw[ea];omega)
theorem im.below {d:World} {base:Nat} {e:TypeId} {v:Value} {l:List UInt8} (h:im d base e v l): ∀k,v.ownBlock=some k->base<=k:=λk a=>by
 rcases h.2 with⟨rfl,_⟩|⟨g,cap,cur,rfl,hb,_⟩
 ·cases a
 ·injection a with a;have a:g=k:=a;omega
theorem qz (a:World) (e:TypeId) (b:UInt8):Sl (a.alloc (.cells #[.int .u8 (b.toNat:Int)] e)) (some ⟨a.heap.size,0,none⟩) 1 [b]:=
 ⟨by simp,by simp[maxLen],λd=>(by cases d),.inr ⟨a.heap.size,0,rfl,by simp,λi hi=>by
  have:i=0:=by simp at hi;omega
  subst this;rw[(aq a e #[.int .u8 (b.toNat:Int)]).cell]
  rfl⟩⟩
end
section
def i':Nat->Nat->List UInt8
 |0,u=>[UInt8.ofNat u]
 |k+1,u=>if 128<=u then UInt8.ofNat (128+u%128)::i' k (u/128)else[UInt8.ofNat u]
def Ga (n:Int):Nat:=if n<0 then(-(2*n)-1).toNat else(2*n).toNat
def f_ (n:Int):List UInt8:=i' 10 (Ga n)
def kr:List UInt8->Bool
 |b0::b1::b2::b3::r=>(fW b0 b1 b2 b3).isSome&&kr r
 | _=>true
def pR (f:pD):Int:=mr (mr f.code.length+f.data.length+f.zero)
def gJ (f:pD):Bool:=
 decide (4<=f.code.length)&&(decide (f.code.length%4=0)&&(decide (0<=f.entry)&&(decide (f.entry<f.code.length)&&(decide (f.entry.tmod 4=0)&&(decide (0<=f.zero)&&(decide (f.zero<=3072)&&(decide (pR f<=3072)&&kr f.code)))))))
def wW (f:pD):List UInt8:=[82,84,78,49]++f_ f.entry++f_ f.zero++f_ f.code.length++f.code++f_ f.data.length++f.data
def kL:=@im.below
end
end Go.Proofs.YtoedmpgicdekmaaGreatDoor
