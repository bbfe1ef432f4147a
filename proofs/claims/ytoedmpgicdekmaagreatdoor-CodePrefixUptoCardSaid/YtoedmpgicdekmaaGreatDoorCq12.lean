/-
  Parts of the proof: PrB PrC PrD.
-/
import Derived.Test.YtoedmpgicdekmaaGreatDoorCq00
import Derived.Lib.AppendIntMem
import Derived.Test.YtoedmpgicdekmaaGreatDoorCq09
import Derived.Test.YtoedmpgicdekmaaGreatDoorCq10
import Derived.Test.YtoedmpgicdekmaaGreatDoorCq11
set_option maxRecDepth 100000
set_option maxHeartbeats 8000000
set_option linter.unusedVariables false
set_option linter.unusedSimpArgs false
set_option linter.unusedSectionVars false
namespace Go.Proofs.YtoedmpgicdekmaaGreatDoor
open Go.Proofs.Tryz
section
open Go.RowKit
def eb (sep:List UInt8):List (List UInt8)->List UInt8
 | []=>[]
 |x::r=>x++r.flatMap (fun y=>sep++y)
theorem uk (sep:List UInt8) (l:List (List UInt8)) (x:List UInt8):eb sep (l++[x])=eb sep l++((if l=[]then[]else sep)++x):=by
 cases l with
 |nil=>simp[eb]
 |cons y r=>simp[eb]
def mV (b:Bool) (s:List UInt8):List UInt8:=if b then 40::(s++[41])else s
def tU (k:Int) (op nm tx:List UInt8) (v:Int) (ps:List Int) (ss:List (List UInt8)):List UInt8:=
 if k=1 then ko v.toNat
 else if k=2 then ll tx
 else if k=3 then nm
 else if k=4 then nm++[91]++ss.headD []++[93]
 else if k=5 then nm++[40]++eb [44,32] ss++[41]
 else if k=6 then op++mV (decide (ps.headD 0<7)) (ss.headD [])
 else if k=7 then mV (decide (ps.headD 0<nC op)) (ss.headD [])++([32]++op++[32])++mV (decide (ps.tail.headD 0<=nC op)) (ss.tail.headD [])
 else[]
mutual
def cL:Ex->List UInt8| .mk k op nm tx v a=>tU k op nm tx v (a.map Ex.prec) (eS a)
def eS:List Ex->List (List UInt8)| []=>[]|x::r=>cL x::eS r
end
theorem lD: ∀l,eS l=l.map cL
 | []=>rfl
 |x::r=>by rw[eS,lD r];rfl
theorem zE: ∀n,Lib.decDigits n=ko n:=fun n=>by
 induction n using Nat.strongRecOn with
 | _ n ih=>
  rw[Lib.decDigits,ko];split
  ·rfl
  ·rw[ih (n/10) (by omega)]
theorem tZ (l:List UInt8):(ll l).length<=2*l.length+2:=by
 have:=(gX l).2;simp only[ll,ae,ab,ag];omega
theorem sM {v:Int} (h:v<=2147483647):(ko v.toNat).length<=10:=m' 9 v.toNat (by omega)
theorem nB (b:Bool) (s:List UInt8):(mV b s).length<=s.length+2:=by
 cases b<;>simp[mV]
theorem pW (sep:List UInt8): ∀l:List (List UInt8),(eb sep l).length<=(l.map fun s=>s.length+sep.length).sum
 | []=>by simp[eb]
 |x::r=>by
  have:(r.flatMap fun y=>sep++y).length=(r.map fun s=>s.length+sep.length).sum:=by
   rw[gT]
   congr 1
   apply List.map_congr_left;intro y _;simp;omega
  simp only[eb,ab,bS,fI,this];omega
theorem eD {P:Nat->Prop} {a b c:World} (h:dm P a b) (k:dm P b c):dm P a c:=⟨ax h.1 k.1,fun x hP hx=>(k.2 x hP (aA hx h.1)).trans (h.2 x hP hx)⟩
def dK (w:World) (b:Nat):Prop:=Lib.TabIs prog w "internal/strconv.uint64pow10" .u64 Lib.pow10Tab/\3<b
theorem dK.fb {w w':World} {b:Nat} (h:dK w b) (hF:FB b w w'):dK w' b:=by
 refine⟨?_,h.2⟩;have h1:=h.1;have hg:prog.globalNamed "internal/strconv.uint64pow10" =some 3:=by kernel_rfl
 have hb:=hF.below.block _ h.2;unfold Lib.TabIs World.var? at h1⊢;rw[hg]at h1⊢;simp only[eA]at h1⊢;rw[hb];exact h1
theorem sw (n:Int) (h0:0<=n) (h1:n<=9223372036854775807) (w:World) (b:Nat) (ht:dK w b):Calls prog 119 #[.int .i64 n] w fun e w'=>e= .returned (.string (an (ko n.toNat)))/\au w w':=by
 refine(Tryz.strconv_Itoa n (by omega) h1 w ht.1).mono ?_;rintro e w' ⟨rfl,k,os,rfl⟩;have:Lib.itoa n=ko n.toNat:=by unfold Lib.itoa;rw[if_neg (by omega),zE]
 rw[this];exact⟨rfl,Lib.below_grow _ w (ah _) k os⟩
structure PC (b px:Nat) (w0:World) (P:Nat->Prop) (t:TypeId) (cs:Array Value) (v:Value) (xs:List Ex) (l:List UInt8) (W:World):Prop where
 box:aP W px t cs
 bu:Bu W b l
 rd:et W P v xs
 fb:FB b w0 W
 tab:dK W b
 ne:px≠b
 tt:t≠5
 hP: ∀k,P k->k<b
section
variable {b px:Nat} {w0 W W':World} {P:Nat->Prop} {t:TypeId} {cs:Array Value} {v:Value} {xs:List Ex} {l l':List UInt8}
theorem PC.wr (h:PC b px w0 P t cs v xs l W) (hB:Bu W' b l') (hF:FB b W W'):PC b px w0 P t cs v xs l' W':=
 ⟨hF.keep _ _ _ h.ne h.tt h.box,hB,h.rd.keep (hF.keepP h.hP) (fun _ hb _=>hb),h.fb.trans hF,h.tab.fb hF,h.ne,h.tt,h.hP⟩
theorem PC.ex (h:PC b px w0 P t cs v xs l W) (hE:au W W'):PC b px w0 P t cs v xs l W':=h.wr (h.bu.ext hE) (aQ hE (aF h.bu.lt))
end
theorem lR {b:Nat} {w w':World} (h:FB b w.drew w'):FB b w w':=⟨⟨h.below.os,h.below.tape,h.below.output,h.below.size,h.below.block⟩,h.keep⟩
section
variable {P:Program} {ops:Array Oper} {Q:Exit->Act->World->Prop}
theorem gW {id:Nat} {a:Act} {w:World} (b m f:Nat) (l:List Au) (x:Nat) (hm:P.follows .mixedOrders=true) (hok:EH ops m a.tmps.size=true) (hbw:b<=w.heap.size)
  (hs:kV au l) (hx:pN x (fun a c=>b<=a.heap.size->FB b a c) l)
  (h:eF P Q ops f (fC l) (some x) (fun _=>false) au (fun a c=>b<=a.heap.size->FB b a c) w.drew (fun a Φ=> ∀w',FB b w w'->(∀p∈Φ,p.2 w')->wpList P ops Q (ops.toList.drop m) a w') (ops.toList.take m) 0 a []):(Code.region id ops true).wp P Q a w:=by
 refine h_ m f (fC l) (some x) au (fun a c=>b<=a.heap.size->FB b a c) hm hok aG (fun a c d h1 h2 ha=>(h1 ha).trans (h2 (ax ha (h1 ha).below.size))) (fun a c h ha=>aQ h ha) (fun _ _ _=>qd) hs.out hx.out ?_;refine eF.fin (fun a Φ h w' h1 h2=>h w' ?_ h2) _ _ _ _ h;have h3:=h1 hbw;exact⟨⟨h3.below.os,h3.below.tape,h3.below.output,h3.below.size,h3.below.block⟩,h3.keep⟩
end
def nf (x:Ex):Prop:= ∀(P:Nat->Prop) (w:World) (A:Option Addr) (n c b:Nat) (l:List UInt8),et w P (.slice A n c) x.args->(∀k,P k->k<b)->dK w b->Bu w b l->l.length+(cL x).length<=1000000000->
 Calls prog 241 #[.pointer (some ⟨b,0,none⟩), .agg #[.int .i64 x.k, .string (an x.op), .string (an x.nm), .string (an x.tx), .int .i64 x.v, .slice A n c]] w fun e w'=>e= .returned (.tuple #[])/\Bu w' b (l++cL x)/\FB b w w'
theorem qD (x:Ex) (hx:nf x) (pb:Bool) (P:Nat->Prop) (w:World) (A:Option Addr) (n c b:Nat) (l:List UInt8) (hR:et w P (.slice A n c) x.args) (hP: ∀k,P k->k<b) (hT:dK w b) (hB:Bu w b l) (hl:l.length+(mV pb (cL x)).length<=1000000000):
  Calls prog 256 #[.pointer (some ⟨b,0,none⟩), .agg #[.int .i64 x.k, .string (an x.op), .string (an x.nm), .string (an x.tx), .int .i64 x.v, .slice A n c], .bool pb] w fun e w'=>e= .returned (.tuple #[])/\Bu w' b (l++mV pb (cL x))/\FB b w w':=by
 have HX:=G hx;clear hx;unfold nf at HX;generalize cL x=S at*;generalize hargs:x.args=xs at*;generalize x.k=k at*;generalize x.op=op at*;generalize x.nm=nm at*;generalize x.tx=tx at*;generalize x.v=v at*;have HC0:=G (show PC b w.heap.size w P 206 #[.int .i64 k, .string (an op), .string (an nm), .string (an tx), .int .i64 v, .slice A n c] (.slice A n c) xs l _ from⟨aw w 206 #[.int .i64 k, .string (an op), .string (an nm), .string (an tx), .int .i64 v, .slice A n c],hB.ext (aa w _),hR.keep (.of_ext (aa w _)) (fun _ hb _=>hb),aQ (aa w _) (aF hB.lt),hT.fb (aQ (aa w _) (aF hB.lt)),bO hB.lt,by decide,hP⟩);have hbc:=HC0.out.box.cell;clear hB hR hT
 cases pb with
 |true=>
  have hl:l.length+(S.length+2)<=1000000000:=by simpa[mV]using hl
  go_enter func256,ntmps256;go_wp2_with (first|(go_at_call 118;refine(cK b l [40] _ HC0.out.bu (by simp only[ae,ag];omega)).mono ?_;rintro e u1 ⟨rfl,h1,h2⟩;have HC1:=G (HC0.out.wr h1 h2);clear h1 h2 HC0;clear hbc;have hbc:=HC1.out.box.cell)|(go_at_call 241;refine(HX.out P _ A n c b (l++[40]) HC1.out.rd hP HC1.out.tab HC1.out.bu (by simp only[ab,ae,ag];omega)).mono ?_;rintro e u2 ⟨rfl,h1,h2⟩;have HC2:=G (HC1.out.wr h1 h2);clear h1 h2 HC1)|(go_at_call 118;refine(cK b (l++[40]++S) [41] _ HC2.out.bu (by simp only[ab,ae,ag];omega)).mono ?_;rintro e u3 ⟨rfl,h1,h2⟩;have HC3:=G (HC2.out.wr h1 h2);clear h1 h2 HC2))
  go_end0
  exact⟨rfl,by have:=HC3.out.bu;simpa[mV,aJ]using this,HC3.out.fb⟩
 |false=>
  have hl:l.length+S.length<=1000000000:=hl;go_enter func256,ntmps256;go_wp2_with (go_at_call 241;refine(HX.out P _ A n c b l HC0.out.rd hP HC0.out.tab HC0.out.bu (by omega)).mono ?_;rintro e u2 ⟨rfl,h1,h2⟩;have HC2:=G (HC0.out.wr h1 h2);clear h1 h2 HC0)
  go_end0
  exact⟨rfl,HC2.out.bu,HC2.out.fb⟩
theorem F_ (op nm tx:List UInt8) (v:Int) (xs:List Ex) (h0:0<=v) (h1:v<=2147483647) (P:Nat->Prop) (w:World) (A:Option Addr) (n c b:Nat) (l:List UInt8) (hR:et w P (.slice A n c) xs) (hP: ∀k,P k->k<b) (hT:dK w b) (hB:Bu w b l) (S:List UInt8) (hS:cL (.mk 1 op nm tx v xs)=S) (hl:l.length+S.length<=1000000000):
  Calls prog 241 #[.pointer (some ⟨b,0,none⟩), .agg #[.int .i64 1, .string (an op), .string (an nm), .string (an tx), .int .i64 v, .slice A n c]] w fun e w'=>e= .returned (.tuple #[])/\Bu w' b (l++S)/\FB b w w':=by
 have HS:=G (show ko v.toNat=S from by rw[<-hS];rfl);have hlen:(ko v.toNat).length=S.length:=by rw[HS.out]
 clear hS;have HC0:=G (show PC b w.heap.size w P 206 #[.int .i64 1, .string (an op), .string (an nm), .string (an tx), .int .i64 v, .slice A n c] (.slice A n c) xs l _ from⟨aw w 206 #[.int .i64 1, .string (an op), .string (an nm), .string (an tx), .int .i64 v, .slice A n c],hB.ext (aa w _),hR.keep (.of_ext (aa w _)) (fun _ hb _=>hb),aQ (aa w _) (aF hB.lt),hT.fb (aQ (aa w _) (aF hB.lt)),bO hB.lt,by decide,hP⟩);have hbc:=HC0.out.box.cell;clear hB hR hT;have HIt:=G (fun w h=>sw v h0 (by omega) w b h);generalize ko v.toNat=D at*;go_enter func241,ntmps241;go_wp2_with fail;refine ay 6 3 [(5,fun x=>x= .string (an D),fun _ _=>True)] mixed (by kernel_rfl) ⟨fun _ _ _ _ _=>trivial,trivial⟩ ?_;repeat (refine sx ?_ (fun w1 hU=> ?_) ?_;rotate_left;(focus have f1:=(HC0.out.ex hU.un).box.cell;clear hU;go_simp<;>with_reducible rfl);simp only[bH,bG,bF,bE,bD])
 refine so (fun w6 hU hp K hK=> ?_) ?_
 ·have hT6:=(HC0.out.ex hU.un).tab;clear hp hU;go_simp;refine(HIt.out w6 hT6).mono ?_;rintro e w7 ⟨rfl,hE⟩;exact hK _ _ hE rfl trivial
 rintro _ rfl;simp only[bH,bG,bF,bE,bD];repeat (refine sx ?_ (fun w1 hU=> ?_) ?_;rotate_left;(focus have f1:=(HC0.out.ex hU.un).box.cell;clear hU;go_simp<;>with_reducible rfl);simp only[bH,bG,bF,bE,bD])
 intro z1 hz1 hp;clear hp;simp only[ac,aq];have HC1:=G (HC0.out.ex hz1.un);clear hz1 hbc HC0;have hbc:=HC1.out.box.cell;go_wp2_with ((go_at_call 118;refine(cK b l D _ HC1.out.bu (by omega)).mono ?_;rintro e u2 ⟨rfl,h1,h2⟩;have HC2:=G (HC1.out.wr h1 h2);clear h1 h2 HC1))
 go_end0
 exact⟨rfl,by rw[<-HS.out];have:=HC2.out.bu;exact this,HC2.out.fb⟩
theorem F9 (op nm tx:List UInt8) (v:Int) (xs:List Ex) (h0:tx.length<=128) (P:Nat->Prop) (w:World) (A:Option Addr) (n c b:Nat) (l:List UInt8) (hR:et w P (.slice A n c) xs) (hP: ∀k,P k->k<b) (hT:dK w b) (hB:Bu w b l) (S:List UInt8) (hS:cL (.mk 2 op nm tx v xs)=S) (hl:l.length+S.length<=1000000000):
  Calls prog 241 #[.pointer (some ⟨b,0,none⟩), .agg #[.int .i64 2, .string (an op), .string (an nm), .string (an tx), .int .i64 v, .slice A n c]] w fun e w'=>e= .returned (.tuple #[])/\Bu w' b (l++S)/\FB b w w':=by
 have HS:=G (show ll tx=S from by rw[<-hS];rfl);have hlen:(ll tx).length=S.length:=by rw[HS.out]
 clear hS;have HC0:=G (show PC b w.heap.size w P 206 #[.int .i64 2, .string (an op), .string (an nm), .string (an tx), .int .i64 v, .slice A n c] (.slice A n c) xs l _ from⟨aw w 206 #[.int .i64 2, .string (an op), .string (an nm), .string (an tx), .int .i64 v, .slice A n c],hB.ext (aa w _),hR.keep (.of_ext (aa w _)) (fun _ hb _=>hb),aQ (aa w _) (aF hB.lt),hT.fb (aQ (aa w _) (aF hB.lt)),bO hB.lt,by decide,hP⟩);have hbc:=HC0.out.box.cell;clear hB hR hT;have HIt:=G (fun w=>wn tx (by omega) w);generalize ll tx=D at*;go_enter func241,ntmps241;go_wp2_with fail;refine ay 6 3 [(5,fun x=>x= .string (an D),fun _ _=>True)] mixed (by kernel_rfl) ⟨fun _ _ _ _ _=>trivial,trivial⟩ ?_;repeat (refine sx ?_ (fun w1 hU=> ?_) ?_;rotate_left;(focus have f1:=(HC0.out.ex hU.un).box.cell;clear hU;go_simp<;>with_reducible rfl);simp only[bH,bG,bF,bE,bD])
 refine so (fun w6 hU hp K hK=> ?_) ?_
 ·have hT6:=(HC0.out.ex hU.un).tab;clear hp hU;go_simp;refine(HIt.out w6).mono ?_;rintro e w7 ⟨rfl,hE⟩;exact hK _ _ hE rfl trivial
 rintro _ rfl;simp only[bH,bG,bF,bE,bD];repeat (refine sx ?_ (fun w1 hU=> ?_) ?_;rotate_left;(focus have f1:=(HC0.out.ex hU.un).box.cell;clear hU;go_simp<;>with_reducible rfl);simp only[bH,bG,bF,bE,bD])
 intro z1 hz1 hp;clear hp;simp only[ac,aq];have HC1:=G (HC0.out.ex hz1.un);clear hz1 hbc HC0;have hbc:=HC1.out.box.cell;go_wp2_with ((go_at_call 118;refine(cK b l D _ HC1.out.bu (by omega)).mono ?_;rintro e u2 ⟨rfl,h1,h2⟩;have HC2:=G (HC1.out.wr h1 h2);clear h1 h2 HC1))
 go_end0
 exact⟨rfl,by rw[<-HS.out];have:=HC2.out.bu;exact this,HC2.out.fb⟩
theorem F8 (op nm tx:List UInt8) (v:Int) (xs:List Ex) (P:Nat->Prop) (w:World) (A:Option Addr) (n c b:Nat) (l:List UInt8) (hR:et w P (.slice A n c) xs) (hP: ∀k,P k->k<b) (hT:dK w b) (hB:Bu w b l) (S:List UInt8) (hS:cL (.mk 3 op nm tx v xs)=S) (hl:l.length+S.length<=1000000000):
  Calls prog 241 #[.pointer (some ⟨b,0,none⟩), .agg #[.int .i64 3, .string (an op), .string (an nm), .string (an tx), .int .i64 v, .slice A n c]] w fun e w'=>e= .returned (.tuple #[])/\Bu w' b (l++S)/\FB b w w':=by
 have HS:=G (show nm=S from by rw[<-hS];rfl);have hlen:nm.length=S.length:=by rw[HS.out]
 clear hS;have HC0:=G (show PC b w.heap.size w P 206 #[.int .i64 3, .string (an op), .string (an nm), .string (an tx), .int .i64 v, .slice A n c] (.slice A n c) xs l _ from⟨aw w 206 #[.int .i64 3, .string (an op), .string (an nm), .string (an tx), .int .i64 v, .slice A n c],hB.ext (aa w _),hR.keep (.of_ext (aa w _)) (fun _ hb _=>hb),aQ (aa w _) (aF hB.lt),hT.fb (aQ (aa w _) (aF hB.lt)),bO hB.lt,by decide,hP⟩);have hbc:=HC0.out.box.cell;clear hB hR hT;go_enter func241,ntmps241;go_wp2_with fail;refine ay 5 3 [] mixed (by kernel_rfl) trivial ?_;repeat (refine sx ?_ (fun w1 hU=> ?_) ?_;rotate_left;(focus have f1:=(HC0.out.ex hU.un).box.cell;clear hU;go_simp<;>with_reducible rfl);simp only[bH,bG,bF,bE,bD])
 intro z1 hz1 hp;clear hp;simp only[ac,aq];have HC1:=G (HC0.out.ex hz1.un);clear hz1 hbc HC0;have hbc:=HC1.out.box.cell;go_wp2_with ((go_at_call 118;refine(cK b l nm _ HC1.out.bu (by omega)).mono ?_;rintro e u2 ⟨rfl,h1,h2⟩;have HC2:=G (HC1.out.wr h1 h2);clear h1 h2 HC1))
 go_end0
 exact⟨rfl,by rw[<-HS.out];have:=HC2.out.bu;exact this,HC2.out.fb⟩
theorem F7 (op nm tx:List UInt8) (v:Int) (y:Ex) (hy:nf y) (P:Nat->Prop) (w:World) (A:Option Addr) (n c b:Nat) (l:List UInt8) (hR:et w P (.slice A n c) [y]) (hP: ∀k,P k->k<b) (hT:dK w b) (hB:Bu w b l) (S:List UInt8) (hS:cL (.mk 4 op nm tx v [y])=S) (hl:l.length+S.length<=1000000000):
  Calls prog 241 #[.pointer (some ⟨b,0,none⟩), .agg #[.int .i64 4, .string (an op), .string (an nm), .string (an tx), .int .i64 v, .slice A n c]] w fun e w'=>e= .returned (.tuple #[])/\Bu w' b (l++S)/\FB b w w':=by
 have hn:=hR.len;have HX:=G hy;unfold nf at HX;have HS:=G (show nm++[91]++cL y++[93]=S from by rw[<-hS];rfl);have hlen:nm.length+1+(cL y).length+1=S.length:=by rw[<-HS.out];simp only[ab,ae,ag]
 clear hS hy;simp only[ae,ag]at hn;obtain rfl:n=1:=hn;obtain⟨b0,o0,a0,hA0,hb0,hP0,y00,y10,y20,y30,y40,y50,hRy0⟩:=hR.at_ 0 (by simp);simp only[aE,aL,aV,a7,cD]at y00 y10 y20 y30 y40 y50 hRy0;obtain⟨B0,d0,rfl,_⟩:=hRy0.form;have HY0:=G (aB y00 (aB y10 (aB y20 (aB y30 (aB y40 y50)))));have HRy0:=G hRy0;clear y00 y10 y20 y30 y40 y50 hRy0;have HC0:=G (show PC b w.heap.size w P 206 #[.int .i64 4, .string (an op), .string (an nm), .string (an tx), .int .i64 v, .slice A 1 c] (.slice A 1 c) [y] l _ from⟨aw w 206 #[.int .i64 4, .string (an op), .string (an nm), .string (an tx), .int .i64 v, .slice A 1 c],hB.ext (aa w _),hR.keep (.of_ext (aa w _)) (fun _ hb _=>hb),aQ (aa w _) (aF hB.lt),hT.fb (aQ (aa w _) (aF hB.lt)),bO hB.lt,by decide,hP⟩);have hbc:=HC0.out.box.cell;clear hB hR hT;obtain⟨c1,Hc1⟩: ∃c,Hid (nm++[91]=c):=⟨_,G rfl⟩
 have hzc1:c1.length=nm.length+1:=by rw[<-Hc1.out,ab];rfl
 have hsc1:an nm++(⟨#[91]⟩:ByteArray)=an c1:=by rw[<-Hc1.out];exact dQ _ _
 have hmc1: ¬9223372036854775807<nm.length+1:=by omega
 have hkc1: ¬9223372036854775807<1+nm.length:=by omega
 have hqc1nm:(an nm).size=nm.length:=aU _;have hqc1l:((⟨#[91]⟩:ByteArray)).size=1:=rfl;subst hA0;generalize cL y=Sy at*;go_enter func241,ntmps241;go_wp2_with fail;refine ay 6 3 [] mixed (by kernel_rfl) trivial ?_;repeat (refine sx ?_ (fun w1 hU=> ?_) ?_;rotate_left;(focus have f1:=(HC0.out.ex hU.un).box.cell;clear hU;go_simp<;>with_reducible rfl);simp only[bH,bG,bF,bE,bD])
 intro z1 hz1 hp;clear hp;simp only[ac,aq];have HC1:=G (HC0.out.ex hz1.un);clear hz1 hbc HC0;have hbc:=HC1.out.box.cell;go_wp2_with (first|(go_at_call 118;refine(cK b l c1 _ HC1.out.bu (by omega)).mono ?_;rintro e u2 ⟨rfl,h1,h2⟩;have HC2:=G (HC1.out.wr h1 h2);clear h1 h2 HC1;clear hbc;have hbc:=HC2.out.box.cell;have e0:=(HC2.out.fb.keepP hP).cell (o0) hP0 hb0|>.trans HY0.out.1;have e1:=(HC2.out.fb.keepP hP).cell (o0+1) hP0 hb0|>.trans HY0.out.2.1;have e2:=(HC2.out.fb.keepP hP).cell (o0+2) hP0 hb0|>.trans HY0.out.2.2.1;have e3:=(HC2.out.fb.keepP hP).cell (o0+3) hP0 hb0|>.trans HY0.out.2.2.2.1;have e4:=(HC2.out.fb.keepP hP).cell (o0+4) hP0 hb0|>.trans HY0.out.2.2.2.2.1;have e5:=(HC2.out.fb.keepP hP).cell (o0+5) hP0 hb0|>.trans HY0.out.2.2.2.2.2)|(go_at_call 241;refine(HX.out P _ B0 _ d0 b (l++c1) (HRy0.out.keep (HC2.out.fb.keepP hP) (fun _ hb _=>hb)) hP HC2.out.tab HC2.out.bu (by simp only[ab];omega)).mono ?_;rintro e u3 ⟨rfl,h1,h2⟩;have HC3:=G (HC2.out.wr h1 h2);clear h1 h2 HC2;clear e0 e1 e2 e3 e4 e5)|(go_at_call 118;refine(cK b (l++c1++Sy) [93] _ HC3.out.bu (by simp only[ab,ae,ag];omega)).mono ?_;rintro e u4 ⟨rfl,h1,h2⟩;have HC4:=G (HC3.out.wr h1 h2);clear h1 h2 HC3))
 go_end0
 exact⟨rfl,by rw[<-HS.out];have:=HC4.out.bu;rw[<-Hc1.out]at this;simpa[aJ]using this,HC4.out.fb⟩
theorem F6 (op nm tx:List UInt8) (v:Int) (xs:List Ex) (hx: ∀y,y∈xs->nf y) (h4:xs.length<=4) (P:Nat->Prop) (w:World) (A:Option Addr) (n c b:Nat) (l:List UInt8) (hR:et w P (.slice A n c) xs) (hP: ∀k,P k->k<b) (hT:dK w b) (hB:Bu w b l) (S:List UInt8) (hS:cL (.mk 5 op nm tx v xs)=S) (hl:l.length+S.length<=1000000000):
  Calls prog 241 #[.pointer (some ⟨b,0,none⟩), .agg #[.int .i64 5, .string (an op), .string (an nm), .string (an tx), .int .i64 v, .slice A n c]] w fun e w'=>e= .returned (.tuple #[])/\Bu w' b (l++S)/\FB b w w':=by
 have hn:=hR.len;have HX:=G hx;have HS:=G (show nm++[40]++eb [44,32] (eS xs)++[41]=S from by rw[<-hS];rfl);have hlen:nm.length+1+(eb [44,32] (eS xs)).length+1=S.length:=by rw[<-HS.out];simp only[ab,ae,ag]
 have HN:=G hn;have hn4:(n:Int)<=4:=by omega
 clear hS hx hn;have HC0:=G (show PC b w.heap.size w P 206 #[.int .i64 5, .string (an op), .string (an nm), .string (an tx), .int .i64 v, .slice A n c] (.slice A n c) xs l _ from⟨aw w 206 #[.int .i64 5, .string (an op), .string (an nm), .string (an tx), .int .i64 v, .slice A n c],hB.ext (aa w _),hR.keep (.of_ext (aa w _)) (fun _ hb _=>hb),aQ (aa w _) (aF hB.lt),hT.fb (aQ (aa w _) (aF hB.lt)),bO hB.lt,by decide,hP⟩);have hbc:=HC0.out.box.cell;clear hB hR hT;obtain⟨c1,Hc1⟩: ∃c,Hid (nm++[40]=c):=⟨_,G rfl⟩
 have hzc1:c1.length=nm.length+1:=by rw[<-Hc1.out,ab];rfl
 have hsc1:an nm++(⟨#[40]⟩:ByteArray)=an c1:=by rw[<-Hc1.out];exact dQ _ _
 have hmc1: ¬9223372036854775807<nm.length+1:=by omega
 have hkc1: ¬9223372036854775807<1+nm.length:=by omega
 have hqc1nm:(an nm).size=nm.length:=aU _;have hqc1l:((⟨#[40]⟩:ByteArray)).size=1:=rfl;go_enter func241,ntmps241;go_wp2_with fail;refine ay 6 3 [] mixed (by kernel_rfl) trivial ?_;repeat (refine sx ?_ (fun w1 hU=> ?_) ?_;rotate_left;(focus have f1:=(HC0.out.ex hU.un).box.cell;clear hU;go_simp<;>with_reducible rfl);simp only[bH,bG,bF,bE,bD])
 intro z1 hz1 hp;clear hp;simp only[ac,aq];have HC1:=G (HC0.out.ex hz1.un);clear hz1 hbc HC0;have hbc:=HC1.out.box.cell;go_wp2_with ((go_at_call 118;refine(cK b l c1 _ HC1.out.bu (by omega)).mono ?_;rintro e u2 ⟨rfl,h1,h2⟩;have HC2:=G (HC1.out.wr h1 h2);clear h1 h2 HC1;clear hbc;have hbc:=HC2.out.box.cell));clear hbc
 go_loopw [66] (fun vi wr=> ∃j:Nat,vi= .int .i64 (j:Int)/\j<=n/\Hid (PC b w.heap.size w P 206 #[.int .i64 5, .string (an op), .string (an nm), .string (an tx), .int .i64 v, .slice A n c] (.slice A n c) xs (l++c1++eb [44,32] ((eS xs).take j)) wr)) (fun vi _=>n-(intOf vi).toNat)
 case atStart=>exact⟨0,rfl,aC _,by simpa[eb]using HC2⟩
 case round=>
  clear HC2;obtain⟨j,rfl,hj,HCr⟩:=hrel;by_cases hlt:j<n
  ·have hlt':(j:Int)<n:=by omega
   have hjl:j<xs.length:=by have:=HN.out;omega
   obtain⟨bj,oj,aj,rfl,hbj,hPj,e0,e1,e2,e3,e4,e5,hRy⟩:=HCr.out.rd.at_ j hjl;have HXy:=G (HX.out _ (ap hjl));have hsl:(eS xs).length=xs.length:=by rw[lD];simp
   have hsj:(eS xs)[j]'(by omega)=cL xs[j]:=by simp[lD]
   have HT:=G (show eb [44,32] ((eS xs).take (j+1))=eb [44,32] ((eS xs).take j)++((if(eS xs).take j=[]then[]else[44,32])++cL xs[j])from by rw[aM (by omega),uk,hsj]);have hbd:(eb [44,32] ((eS xs).take (j+1))).length<=(eb [44,32] (eS xs)).length:=by
    have:eS xs=(eS xs).take (j+1)++(eS xs).drop (j+1):=(cM _ _).symm
    conv=>rhs;rw[this]
    cases h:(eS xs).take (j+1)with
    |nil=>simp[eb]
    |cons a r=>simp[eb]
   have hte:((eS xs).take j=[])↔j=0:=by
    rw[List.take_eq_nil_iff];constructor
    ·rintro(h|h)
     ·exact h
     ·rw[h]at hsl;simp at hsl;omega
    ·exact fun h=> .inl h
   generalize xs[j]=y at*;unfold nf at HXy;obtain⟨By,dy,rfl,_⟩:=hRy.form;have HRy:=G hRy;have hey:y.args.length=y.args.length:=rfl;have hsz:=HCr.out.bu.lt;have HC1:=G (HCr.out.ex (aa _ (.cells #[.int .i64 y.k, .string (an y.op), .string (an y.nm), .string (an y.tx), .int .i64 y.v, .slice By y.args.length dy] 206)));have HYB:=G (aw wr 206 #[.int .i64 y.k, .string (an y.op), .string (an y.nm), .string (an y.tx), .int .i64 y.v, .slice By y.args.length dy]);have hpy:wr.heap.size≠b:=by omega
   have HRz:=G (hRy.keep (.of_ext (aa wr (.cells #[.int .i64 y.k, .string (an y.op), .string (an y.nm), .string (an y.tx), .int .i64 y.v, .slice By y.args.length dy] 206))) (fun _ hb _=>hb));generalize eb [44,32] ((eS xs).take j)=J at*;generalize hJ1:eb [44,32] ((eS xs).take (j+1))=J1 at*;have hJl:=congrArg List.length HT.out;simp only[ab]at hJl;generalize cL y=Sy at*;clear hRy hsl hsj HRy hey;by_cases hj0:j=0
   ·subst hj0;simp only[aV,a7]at e0 e1 e2 e3 e4 e5;rw[if_pos (hte.2 rfl)]at HT hJl;simp only[ag]at hJl;clear hte;go_wp2_with (go_at_call 241;refine(HXy.out P _ By _ dy b (l++c1++J) HRz.out hP HC1.out.tab HC1.out.bu (by simp only[ab];omega)).mono ?_;rintro e u3 ⟨rfl,h1,h2⟩;have HC3:=G (HC1.out.wr h1 h2);clear h1 h2 HC1);go_roundw
    case rel=>exact⟨1,rfl,by omega,by have:=HT.out;rw[show eb [44,32] (List.take 1 (eS xs))=J1 from hJ1,this];simpa[aJ]using HC3⟩
    case measure=>simp[intOf];omega
   ·have hj1:(0:Int)<j:=by omega
    have hj2:0<j:=by omega
    rw[if_neg (fun h=>hj0 (hte.1 h))]at HT hJl;simp only[ae,ag]at hJl;clear hte;have hyc:=HYB.out.cell;go_wp2_with (first|(go_at_call 118;refine(cK b (l++c1++J) [44,32] _ HC1.out.bu (by simp only[ab,ae,ag];omega)).mono ?_;rintro e u2 ⟨rfl,h1,h2⟩;have HC2:=G (HC1.out.wr h1 h2);have HYB2:=G (h2.keep _ _ _ hpy (by decide) HYB.out);have hyc2:=HYB2.out.cell;have HRw:=G (HRz.out.keep (h2.keepP hP) (fun _ hb _=>hb));clear h1 h2 HC1;clear hyc)|(go_at_call 241;refine(HXy.out P _ By _ dy b (l++c1++J++[44,32]) HRw.out hP HC2.out.tab HC2.out.bu (by simp only[ab,ae,ag];omega)).mono ?_;rintro e u3 ⟨rfl,h1,h2⟩;have HC3:=G (HC2.out.wr h1 h2);clear h1 h2 HC2));go_roundw
    case rel=>exact⟨j+1,by go_num,by omega,by have:=HT.out;rw[hJ1,this];simpa[aJ]using HC3⟩
    case measure=>simp[intOf];omega
  ·have hlt': ¬(j:Int)<n:=by omega
   have hjn:j=n:=by omega
   have HQ:=G (show(eS xs).take j=eS xs from by rw[hjn,HN.out,bh (by rw[lD];simp)]);rw[HQ.out]at HCr;generalize eb [44,32] (eS xs)=J at*;clear HQ;go_wp2_with ((go_at_call 118;refine(cK b (l++c1++J) [41] _ HCr.out.bu (by simp only[ab,ae,ag];omega)).mono ?_;rintro e ue ⟨rfl,h1,h2⟩;have HCe:=G (HCr.out.wr h1 h2);clear h1 h2 HCr))
   go_end0
   exact⟨rfl,by rw[<-HS.out];have:=HCe.out.bu;rw[<-Hc1.out]at this;simpa[aJ]using this,HCe.out.fb⟩
theorem F5 (op nm tx:List UInt8) (v:Int) (y:Ex) (hy:nf y) (P:Nat->Prop) (w:World) (A:Option Addr) (n c b:Nat) (l:List UInt8) (hR:et w P (.slice A n c) [y]) (hP: ∀k,P k->k<b) (hT:dK w b) (hB:Bu w b l) (S:List UInt8) (hS:cL (.mk 6 op nm tx v [y])=S) (hl:l.length+S.length<=1000000000):
  Calls prog 241 #[.pointer (some ⟨b,0,none⟩), .agg #[.int .i64 6, .string (an op), .string (an nm), .string (an tx), .int .i64 v, .slice A n c]] w fun e w'=>e= .returned (.tuple #[])/\Bu w' b (l++S)/\FB b w w':=by
 have hn:=hR.len;have HS:=G (show op++mV (decide (y.prec<7)) (cL y)=S from by rw[<-hS];rfl);have hpl:=nB (decide (y.prec<7)) (cL y);have hlen:op.length+(mV (decide (y.prec<7)) (cL y)).length=S.length:=by rw[<-HS.out];simp only[ab]
 have hpg:(cL y).length<=(mV (decide (y.prec<7)) (cL y)).length:=by unfold mV;split<;>simp<;>omega
 clear hS;simp only[ae,ag]at hn;obtain rfl:n=1:=hn;obtain⟨b0,o0,a0,hA0,hb0,hP0,y00,y10,y20,y30,y40,y50,hRy0⟩:=hR.at_ 0 (by simp);simp only[aE,aL,aV,a7,cD]at y00 y10 y20 y30 y40 y50 hRy0;obtain⟨B0,d0,rfl,_⟩:=hRy0.form;have HY0:=G (aB y00 (aB y10 (aB y20 (aB y30 (aB y40 y50)))));have HRy0:=G hRy0;clear y00 y10 y20 y30 y40 y50 hRy0;subst hA0;have HC0:=G (show PC b w.heap.size w P 206 #[.int .i64 6, .string (an op), .string (an nm), .string (an tx), .int .i64 v, .slice (some ⟨b0,o0,none⟩) 1 c] (.slice (some ⟨b0,o0,none⟩) 1 c) [y] l _ from⟨aw w 206 #[.int .i64 6, .string (an op), .string (an nm), .string (an tx), .int .i64 v, .slice (some ⟨b0,o0,none⟩) 1 c],hB.ext (aa w _),hR.keep (.of_ext (aa w _)) (fun _ hb _=>hb),aQ (aa w _) (aF hB.lt),hT.fb (aQ (aa w _) (aF hB.lt)),bO hB.lt,by decide,hP⟩);have hbc:=HC0.out.box.cell;clear hB hR hT;have HPR0:=G (fun w=>lK y w (.slice B0 y.args.length d0) ⟨_,_,_,rfl⟩);have HO0:=G (qD y hy);generalize y.prec=p0 at*;generalize cL y=Sy at*;clear hy;go_enter func241,ntmps241;go_wp2_with fail;refine ay 5 3 [] mixed (by kernel_rfl) trivial ?_;repeat (refine sx ?_ (fun w1 hU=> ?_) ?_;rotate_left;(focus have f1:=(HC0.out.ex hU.un).box.cell;clear hU;go_simp<;>with_reducible rfl);simp only[bH,bG,bF,bE,bD])
 intro z1 hz1 hp;clear hp;simp only[ac,aq];have HC1:=G (HC0.out.ex hz1.un);clear hz1 hbc HC0;have hbc:=HC1.out.box.cell;go_wp2_with ((go_at_call 118;refine(cK b l op _ HC1.out.bu (by omega)).mono ?_;rintro e u2 ⟨rfl,h1,h2⟩;have HC2:=G (HC1.out.wr h1 h2);clear h1 h2 HC1;clear hbc;have hbc:=HC2.out.box.cell));have hbw2:=aF HC2.out.bu.lt;clear hbc;refine gW b 12 8 [(9,fun x=>x= .int .i64 p0,fun _ _=>True),(11,fun x=>x= .tuple #[],fun _ wx=>Bu wx b (l++op++mV (decide (p0<7)) Sy))] 11 mixed (by kernel_rfl) hbw2 ⟨fun _ _ _ _ _=>trivial,fun _ _ _ h hx=>h.ext hx,trivial⟩ ⟨.inr fun _ _ _ _ _=>trivial, .inl rfl,trivial⟩ ?_;repeat (refine sx ?_ (fun w1 hU=> ?_) ?_;rotate_left;(focus have hF:=lR (hU hbw2);have f1:=(hF.keep _ _ _ HC2.out.ne HC2.out.tt HC2.out.box).cell;have hK:=eD (HC2.out.fb.keepP hP) (hF.keepP hP);have e0:=(hK.cell (o0) hP0 hb0).trans HY0.out.1;have e1:=(hK.cell (o0+1) hP0 hb0).trans HY0.out.2.1;have e2:=(hK.cell (o0+2) hP0 hb0).trans HY0.out.2.2.1;have e3:=(hK.cell (o0+3) hP0 hb0).trans HY0.out.2.2.2.1;have e4:=(hK.cell (o0+4) hP0 hb0).trans HY0.out.2.2.2.2.1;have e5:=(hK.cell (o0+5) hP0 hb0).trans HY0.out.2.2.2.2.2;clear hF hK hU;go_simp<;>with_reducible rfl);simp only[bH,bG,bF,bE,bD])
 refine so (fun w6 hU hp K hK=> ?_) ?_
 ·clear hp hU;go_simp;refine(HPR0.out w6).mono ?_;rintro e w7 ⟨rfl,hE⟩;exact hK _ _ hE rfl trivial
 rintro _ rfl;simp only[bH,bG,bF,bE,bD];repeat (refine sx ?_ (fun w1 hU=> ?_) ?_;rotate_left;(focus have hF:=lR (hU hbw2);have f1:=(hF.keep _ _ _ HC2.out.ne HC2.out.tt HC2.out.box).cell;have hK:=eD (HC2.out.fb.keepP hP) (hF.keepP hP);have e0:=(hK.cell (o0) hP0 hb0).trans HY0.out.1;have e1:=(hK.cell (o0+1) hP0 hb0).trans HY0.out.2.1;have e2:=(hK.cell (o0+2) hP0 hb0).trans HY0.out.2.2.1;have e3:=(hK.cell (o0+3) hP0 hb0).trans HY0.out.2.2.2.1;have e4:=(hK.cell (o0+4) hP0 hb0).trans HY0.out.2.2.2.2.1;have e5:=(hK.cell (o0+5) hP0 hb0).trans HY0.out.2.2.2.2.2;clear hF hK hU;go_simp<;>with_reducible rfl);simp only[bH,bG,bF,bE,bD])
 refine kf _ _ (by rfl) rfl ⟨_,rfl⟩ rfl (fun w6 hT hp K hK=> ?_) ?_
 ·have HC6:=G (HC2.out.ex hT.un);have hR6:=HRy0.out.keep (eD (HC2.out.fb.keepP hP) (.of_ext hT.un)) (fun _ hb _=>hb);have HR6:=G hR6;clear hp hT hR6;go_simp;refine(HO0.out (decide (p0<7)) P w6 B0 _ d0 b (l++op) HR6.out hP HC6.out.tab HC6.out.bu (by first|omega|(simp only[ab,ae,ag];omega))).mono ?_;rintro e w7 ⟨rfl,h1,h2⟩;exact hK _ _ (fun _=>h2) rfl h1
 rintro _ rfl;simp only[bH,bG,bF,bE,bD];intro v3 hv hp;have HC3:=G (HC2.out.wr (hp _ (.head _)) hv);clear hv hp;simp only[ac,aO];have hbc:=HC3.out.box.cell;go_wp2_with fail
 go_end0
 exact⟨rfl,by rw[<-HS.out];have:=HC3.out.bu;simpa[aJ]using this,HC3.out.fb⟩
theorem F4 (op nm tx:List UInt8) (v:Int) (y z:Ex) (hy:nf y) (hz:nf z) (P:Nat->Prop) (w:World) (A:Option Addr) (n c b:Nat) (l:List UInt8) (hR:et w P (.slice A n c) [y,z]) (hP: ∀k,P k->k<b) (hT:dK w b) (hB:Bu w b l) (S:List UInt8) (hS:cL (.mk 7 op nm tx v [y,z])=S) (hl:l.length+S.length<=1000000000):
  Calls prog 241 #[.pointer (some ⟨b,0,none⟩), .agg #[.int .i64 7, .string (an op), .string (an nm), .string (an tx), .int .i64 v, .slice A n c]] w fun e w'=>e= .returned (.tuple #[])/\Bu w' b (l++S)/\FB b w w':=by
 have hn:=hR.len;have HS:=G (show mV (decide (y.prec<nC op)) (cL y)++([32]++op++[32])++mV (decide (z.prec<=nC op)) (cL z)=S from by rw[<-hS];rfl);have hlen:(mV (decide (y.prec<nC op)) (cL y)).length+(1+op.length+1)+(mV (decide (z.prec<=nC op)) (cL z)).length=S.length:=by rw[<-HS.out];simp only[ab,ae,ag]
 have hpg:(cL y).length<=(mV (decide (y.prec<nC op)) (cL y)).length:=by unfold mV;split<;>simp<;>omega
 have hph:(cL z).length<=(mV (decide (z.prec<=nC op)) (cL z)).length:=by unfold mV;split<;>simp<;>omega
 clear hS;simp only[ae,ag]at hn;obtain rfl:n=2:=hn;obtain⟨b0,o0,a0,hA0,hb0,hP0,y00,y10,y20,y30,y40,y50,hRy0⟩:=hR.at_ 0 (by simp);simp only[aE,aL,aV,a7,cD]at y00 y10 y20 y30 y40 y50 hRy0;obtain⟨B0,d0,rfl,_⟩:=hRy0.form;subst hA0;obtain⟨b1,o1,a1,hA1,hb1,hP1,y01,y11,y21,y31,y41,y51,hRy1⟩:=hR.at_ 1 (by simp);simp only[aE,aL,aV,a7,cD]at y01 y11 y21 y31 y41 y51 hRy1;obtain⟨B1,d1,rfl,_⟩:=hRy1.form;injection hA1 with hA1;injection hA1 with hA1 hA2;subst hA1 hA2;have HY0:=G (aB y00 (aB y10 (aB y20 (aB y30 (aB y40 y50)))));have HRy0:=G hRy0;clear y00 y10 y20 y30 y40 y50 hRy0;have HY1:=G (aB y01 (aB y11 (aB y21 (aB y31 (aB y41 y51)))));have HRy1:=G hRy1;clear y01 y11 y21 y31 y41 y51 hRy1;have HC0:=G (show PC b w.heap.size w P 206 #[.int .i64 7, .string (an op), .string (an nm), .string (an tx), .int .i64 v, .slice (some ⟨b0,o0,none⟩) 2 c] (.slice (some ⟨b0,o0,none⟩) 2 c) [y,z] l _ from⟨aw w 206 #[.int .i64 7, .string (an op), .string (an nm), .string (an tx), .int .i64 v, .slice (some ⟨b0,o0,none⟩) 2 c],hB.ext (aa w _),hR.keep (.of_ext (aa w _)) (fun _ hb _=>hb),aQ (aa w _) (aF hB.lt),hT.fb (aQ (aa w _) (aF hB.lt)),bO hB.lt,by decide,hP⟩);have hbc:=HC0.out.box.cell;clear hB hR hT;have HPR0:=G (fun w=>lK y w (.slice B0 y.args.length d0) ⟨_,_,_,rfl⟩);have HO0:=G (qD y hy);have HPR1:=G (fun w=>lK z w (.slice B1 z.args.length d1) ⟨_,_,_,rfl⟩);have HO1:=G (qD z hz);generalize y.prec=p0 at*;generalize z.prec=p1 at*;obtain⟨c1,Hc1⟩: ∃c,Hid ([32]++op=c):=⟨_,G rfl⟩
 have hzc1:c1.length=1+op.length:=by rw[<-Hc1.out,ab];rfl
 have hsc1:(⟨#[32]⟩:ByteArray)++an op=an c1:=by rw[<-Hc1.out];exact dQ _ _
 have hmc1: ¬9223372036854775807<1+op.length:=by omega
 have hkc1: ¬9223372036854775807<op.length+1:=by omega
 have hqc1l:((⟨#[32]⟩:ByteArray)).size=1:=rfl;have hqc1op:(an op).size=op.length:=aU _;obtain⟨c2,Hc2⟩: ∃c,Hid (c1++[32]=c):=⟨_,G rfl⟩
 have hzc2:c2.length=c1.length+1:=by rw[<-Hc2.out,ab];rfl
 have hsc2:an c1++(⟨#[32]⟩:ByteArray)=an c2:=by rw[<-Hc2.out];exact dQ _ _
 have hmc2: ¬9223372036854775807<c1.length+1:=by omega
 have hkc2: ¬9223372036854775807<1+c1.length:=by omega
 have hqc2c1:(an c1).size=c1.length:=aU _;have hqc2l:((⟨#[32]⟩:ByteArray)).size=1:=rfl;have Hz1:=G hzc1;have Hz2:=G hzc2;clear hzc1 hzc2;have HPS:=G (fun w=>lK (.mk 7 op nm tx v [y,z]) w (.slice (some ⟨b0,o0,none⟩) 2 c) ⟨_,_,_,rfl⟩);have hps:Ex.prec (.mk 7 op nm tx v [y,z])=nC op:=rfl;rw[hps]at HPS;simp only[Ex.k,Ex.op,Ex.nm,Ex.tx,Ex.v]at HPS;generalize nC op=L at*;generalize cL y=Sy at*;generalize cL z=Sz at*;clear hy hz hps;go_enter func241,ntmps241;go_wp2_with (go_at_call 257;refine(HPS.out _).mono ?_;rintro e u1 ⟨rfl,hE⟩;have HC1:=G (HC0.out.ex hE);clear hE hbc HC0;have hbc:=HC1.out.box.cell);have hbw1:=aF HC1.out.bu.lt;clear hbc;refine gW b 13 8 [(9,fun x=>x= .int .i64 p0,fun _ _=>True),(12,fun x=>x= .tuple #[],fun _ wx=>Bu wx b (l++mV (decide (p0<L)) Sy))] 12 mixed (by kernel_rfl) hbw1 ⟨fun _ _ _ _ _=>trivial,fun _ _ _ h hx=>h.ext hx,trivial⟩ ⟨.inr fun _ _ _ _ _=>trivial, .inl rfl,trivial⟩ ?_;repeat (refine sx ?_ (fun w1 hU=> ?_) ?_;rotate_left;(focus have hF:=lR (hU hbw1);have f1:=(hF.keep _ _ _ HC1.out.ne HC1.out.tt HC1.out.box).cell;have hK:=eD (HC1.out.fb.keepP hP) (hF.keepP hP);have e0:=(hK.cell (o0) hP0 hb0).trans HY0.out.1;have e1:=(hK.cell (o0+1) hP0 hb0).trans HY0.out.2.1;have e2:=(hK.cell (o0+2) hP0 hb0).trans HY0.out.2.2.1;have e3:=(hK.cell (o0+3) hP0 hb0).trans HY0.out.2.2.2.1;have e4:=(hK.cell (o0+4) hP0 hb0).trans HY0.out.2.2.2.2.1;have e5:=(hK.cell (o0+5) hP0 hb0).trans HY0.out.2.2.2.2.2;clear hF hK hU;go_simp<;>with_reducible rfl);simp only[bH,bG,bF,bE,bD])
 refine so (fun w6 hU hp K hK=> ?_) ?_
 ·clear hp hU;go_simp;refine(HPR0.out w6).mono ?_;rintro e w7 ⟨rfl,hE⟩;exact hK _ _ hE rfl trivial
 rintro _ rfl;simp only[bH,bG,bF,bE,bD];repeat (refine sx ?_ (fun w1 hU=> ?_) ?_;rotate_left;(focus have hF:=lR (hU hbw1);have f1:=(hF.keep _ _ _ HC1.out.ne HC1.out.tt HC1.out.box).cell;have hK:=eD (HC1.out.fb.keepP hP) (hF.keepP hP);have e0:=(hK.cell (o0) hP0 hb0).trans HY0.out.1;have e1:=(hK.cell (o0+1) hP0 hb0).trans HY0.out.2.1;have e2:=(hK.cell (o0+2) hP0 hb0).trans HY0.out.2.2.1;have e3:=(hK.cell (o0+3) hP0 hb0).trans HY0.out.2.2.2.1;have e4:=(hK.cell (o0+4) hP0 hb0).trans HY0.out.2.2.2.2.1;have e5:=(hK.cell (o0+5) hP0 hb0).trans HY0.out.2.2.2.2.2;clear hF hK hU;go_simp<;>with_reducible rfl);simp only[bH,bG,bF,bE,bD])
 refine kf _ _ (by rfl) rfl ⟨_,rfl⟩ rfl (fun w6 hT hp K hK=> ?_) ?_
 ·have HC6:=G (HC1.out.ex hT.un);have hR6:=HRy0.out.keep (eD (HC1.out.fb.keepP hP) (.of_ext hT.un)) (fun _ hb _=>hb);have HR6:=G hR6;clear hp hT hR6;go_simp;refine(HO0.out (decide (p0<L)) P w6 B0 _ d0 b (l) HR6.out hP HC6.out.tab HC6.out.bu (by first|omega|(simp only[ab,ae,ag];omega))).mono ?_;rintro e w7 ⟨rfl,h1,h2⟩;exact hK _ _ (fun _=>h2) rfl h1
 rintro _ rfl;simp only[bH,bG,bF,bE,bD];intro v2 hv hp;have HC2:=G (HC1.out.wr (hp _ (.head _)) hv);clear hv hp;simp only[ac,aO];have hbc:=HC2.out.box.cell;go_wp2_with fail;generalize hq1:mV (decide (p0<L)) Sy=Q1 at*;refine ay 7 3 [] mixed (by kernel_rfl) trivial ?_;repeat (refine sx ?_ (fun w1 hU=> ?_) ?_;rotate_left;(focus have f1:=(HC2.out.ex hU.un).box.cell;clear hU;go_simp<;>with_reducible rfl);simp only[bH,bG,bF,bE,bD])
 intro z3 hz3 hp;clear hp;simp only[ac,aq];have HC3:=G (HC2.out.ex hz3.un);clear hz3 hbc HC2;have hbc:=HC3.out.box.cell;go_wp2_with ((go_at_call 118;refine(cK b (l++Q1) c2 _ HC3.out.bu (by have a1:=Hz1.out;have a2:=Hz2.out;simp only[ab];omega)).mono ?_;rintro e u4 ⟨rfl,h1,h2⟩;have HC4:=G (HC3.out.wr h1 h2);clear h1 h2 HC3;clear hbc;have hbc:=HC4.out.box.cell));have a1:l.length+Q1.length+c2.length+(mV (decide (p1<=L)) Sz).length<=1000000000:=by have a1:=Hz1.out;have a2:=Hz2.out;omega
 clear hsc1 hsc2 hmc1 hmc2 hkc1 hkc2 hqc1l hqc1op hqc2c1 hqc2l hlen hl hpg hph;have hbw4:=aF HC4.out.bu.lt;clear hbc;refine gW b 13 8 [(9,fun x=>x= .int .i64 p1,fun _ _=>True),(12,fun x=>x= .tuple #[],fun _ wx=>Bu wx b (l++Q1++c2++mV (decide (p1<=L)) Sz))] 12 mixed (by kernel_rfl) hbw4 ⟨fun _ _ _ _ _=>trivial,fun _ _ _ h hx=>h.ext hx,trivial⟩ ⟨.inr fun _ _ _ _ _=>trivial, .inl rfl,trivial⟩ ?_;repeat (refine sx ?_ (fun w1 hU=> ?_) ?_;rotate_left;(focus have hF:=lR (hU hbw4);have f1:=(hF.keep _ _ _ HC4.out.ne HC4.out.tt HC4.out.box).cell;have hK:=eD (HC4.out.fb.keepP hP) (hF.keepP hP);have e0:=(hK.cell (o0+6) hP1 hb1).trans HY1.out.1;have e1:=(hK.cell (o0+6+1) hP1 hb1).trans HY1.out.2.1;have e2:=(hK.cell (o0+6+2) hP1 hb1).trans HY1.out.2.2.1;have e3:=(hK.cell (o0+6+3) hP1 hb1).trans HY1.out.2.2.2.1;have e4:=(hK.cell (o0+6+4) hP1 hb1).trans HY1.out.2.2.2.2.1;have e5:=(hK.cell (o0+6+5) hP1 hb1).trans HY1.out.2.2.2.2.2;clear hF hK hU;go_simp<;>with_reducible rfl);simp only[bH,bG,bF,bE,bD])
 refine so (fun w6 hU hp K hK=> ?_) ?_
 ·clear hp hU;go_simp;refine(HPR1.out w6).mono ?_;rintro e w7 ⟨rfl,hE⟩;exact hK _ _ hE rfl trivial
 rintro _ rfl;simp only[bH,bG,bF,bE,bD];repeat (refine sx ?_ (fun w1 hU=> ?_) ?_;rotate_left;(focus have hF:=lR (hU hbw4);have f1:=(hF.keep _ _ _ HC4.out.ne HC4.out.tt HC4.out.box).cell;have hK:=eD (HC4.out.fb.keepP hP) (hF.keepP hP);have e0:=(hK.cell (o0+6) hP1 hb1).trans HY1.out.1;have e1:=(hK.cell (o0+6+1) hP1 hb1).trans HY1.out.2.1;have e2:=(hK.cell (o0+6+2) hP1 hb1).trans HY1.out.2.2.1;have e3:=(hK.cell (o0+6+3) hP1 hb1).trans HY1.out.2.2.2.1;have e4:=(hK.cell (o0+6+4) hP1 hb1).trans HY1.out.2.2.2.2.1;have e5:=(hK.cell (o0+6+5) hP1 hb1).trans HY1.out.2.2.2.2.2;clear hF hK hU;go_simp<;>with_reducible rfl);simp only[bH,bG,bF,bE,bD])
 refine kf _ _ (by rfl) rfl ⟨_,rfl⟩ rfl (fun w6 hT hp K hK=> ?_) ?_
 ·have HC6:=G (HC4.out.ex hT.un);have hR6:=HRy1.out.keep (eD (HC4.out.fb.keepP hP) (.of_ext hT.un)) (fun _ hb _=>hb);have HR6:=G hR6;clear hp hT hR6;go_simp;refine(HO1.out (decide (p1<=L)) P w6 B1 _ d1 b (l++Q1++c2) HR6.out hP HC6.out.tab HC6.out.bu (by first|omega|(simp only[ab,ae,ag];omega))).mono ?_;rintro e w7 ⟨rfl,h1,h2⟩;exact hK _ _ (fun _=>h2) rfl h1
 rintro _ rfl;simp only[bH,bG,bF,bE,bD];intro v5 hv hp;have HC5:=G (HC4.out.wr (hp _ (.head _)) hv);clear hv hp;simp only[ac,aO];have hbc:=HC5.out.box.cell;go_wp2_with fail
 go_end0
 exact⟨rfl,by rw[<-HS.out];have:=HC5.out.bu;rw[<-Hc2.out,<-Hc1.out]at this;simpa[aJ]using this,HC5.out.fb⟩
end
section
open Go.RowKit
theorem uS: ∀(m:Nat) (x:Ex),x.wt<=m->x.ok=true->nf x
 |0,x,hm,_=>absurd hm (by have:=x.wt_eq;omega)
 |m+1, .mk k op nm tx v a,hm,h=>by
  have hw:=(Ex.mk k op nm tx v a).wt_eq;simp only[Ex.op,Ex.nm,Ex.tx,Ex.args]at hw;rw[Ex.ok,ak]at h;obtain⟨h1,h2⟩:=h;rw[qJ]at h2;have ih: ∀y,y∈a->nf y:=fun y hy=>uS m y (by have:=dO hy;omega) (List.all_eq_true.1 h2 y hy);intro P w A n c b l hR hP hT hB hl;simp only[Ex.k,Ex.op,Ex.nm,Ex.tx,Ex.v,Ex.args]at*;by_cases k1:k=1
  ·subst k1;rw[if_pos rfl]at h1;simp only[ak,decide_eq_true_eq]at h1;exact F_ op nm tx v a h1.1.1.1 h1.1.1.2 P w A n c b l hR hP hT hB _ rfl hl
  rw[if_neg k1]at h1;by_cases k2:k=2
  ·subst k2;rw[if_pos rfl]at h1;simp only[ak,qG,decide_eq_true_eq]at h1;exact F9 op nm tx v a h1.1.1.2 P w A n c b l hR hP hT hB _ rfl hl
  rw[if_neg k2]at h1;by_cases k3:k=3
  ·subst k3;exact F8 op nm tx v a P w A n c b l hR hP hT hB _ rfl hl
  rw[if_neg k3]at h1;by_cases k4:k=4
  ·subst k4;rw[if_pos rfl]at h1;simp only[ak,beq_iff_eq]at h1;obtain⟨y,rfl⟩:=List.length_eq_one_iff.1 h1.2;exact F7 op nm tx v y (ih y (by simp)) P w A n c b l hR hP hT hB _ rfl hl
  rw[if_neg k4]at h1;by_cases k5:k=5
  ·subst k5;rw[if_pos rfl]at h1;simp only[ak,decide_eq_true_eq]at h1;exact F6 op nm tx v a ih h1.1.2 P w A n c b l hR hP hT hB _ rfl hl
  rw[if_neg k5]at h1;by_cases k6:k=6
  ·subst k6;rw[if_pos rfl]at h1;simp only[ak,beq_iff_eq]at h1;obtain⟨y,rfl⟩:=List.length_eq_one_iff.1 h1.2;exact F5 op nm tx v y (ih y (by simp)) P w A n c b l hR hP hT hB _ rfl hl
  rw[if_neg k6]at h1;by_cases k7:k=7
  ·subst k7;rw[if_pos rfl]at h1;simp only[ak,beq_iff_eq]at h1;obtain⟨y,z,rfl⟩: ∃y z,a=[y,z]:=by
    cases a with
    |nil=>simp at h1
    |cons y r=>
     cases r with
     |nil=>simp at h1
     |cons z r=>
      cases r with
      |nil=>exact⟨y,z,rfl⟩
      |cons u r=>simp at h1
   exact F4 op nm tx v y z (ih y (by simp)) (ih z (by simp)) P w A n c b l hR hP hT hB _ rfl hl
  ·rw[if_neg k7]at h1
   cases h1
theorem Bf {x:Ex} (h:x.ok=true):nf x:=uS _ x (ah _) h
def jR (i:Nat):List UInt8:=List.replicate i 9
def fq (i:Nat) (ts:List (List UInt8)):List UInt8:=[123,10]++ts.flatMap (fun t=>jR (i+1)++t++[10])++(jR i++[125])
def x8:List UInt8:=[118,97,114,32]
def Fp:List UInt8:=[32,61,32]
def D9:List UInt8:=[105,102,32]
def nO:List UInt8:=[32,101,108,115,101,32]
def x7:List UInt8:=[119,104,105,108,101,32]
def nv:List UInt8:=[114,101,116,117,114,110]
def ke (i:Nat) (k:Int) (nm:List UInt8) (es bs ls l0:List (List UInt8)) (na:Bool):List UInt8:=
 if k=1 then(if es=[]then x8++nm++[59]else x8++nm++Fp++es.headD []++[59])
 else if k=2 then nm++Fp++es.headD []++[59]
 else if k=3 then nm++[91]++es.headD []++[93]++(Fp++es.tail.headD []++[59])
 else if k=4 then D9++es.headD []++[32]++fq i bs++(if na then nO++l0.headD []else if ls=[]then[]else nO++fq i ls)
 else if k=5 then x7++es.headD []++[32]++fq i bs
 else if k=6 then(if es=[]then nv++[59]else nv++[32]++es.headD []++[59])
 else if k=7 then es.headD []++[59]
 else[]
def mI (l:List St):Bool:=l.length==1&&l.head?.map St.k==some 4
mutual
def d6:St->Nat->List UInt8| .mk k nm e b l,i=>ke i k nm (eS e) (bW b (i+1)) (bW l (i+1)) (bW l i) (mI l)
def bW:List St->Nat->List (List UInt8)
 | [],_=>[]
 |x::r,i=>d6 x i::bW r i
end
theorem kA: ∀(l:List St) (i:Nat),bW l i=l.map fun x=>d6 x i
 | [],_=>rfl
 |x::r,i=>by rw[bW,kA r i];rfl
def lh (v:Vr):List UInt8:=x8++v.nm++(if 0<v.sz then[91]++ko v.sz.toNat++[93]else[])++[59,10]
def x9:List UInt8:=[102,117,110,99,32]
def lk (f:Fc):List UInt8:=x9++f.nm++[40]++eb [44,32] f.ps++[41,32]++fq 0 (bW f.body 1)++[10]
def li (p:Pg):List UInt8:=p.vs.flatMap lh++p.fs.flatMap lk
end
section
open Go.RowKit
structure PS (b px:Nat) (w0:World) (P:Nat->Prop) (cs:Array Value) (e v z:Value) (x:St) (l:List UInt8) (W:World):Prop where
 box:aP W px 147 cs
 bu:Bu W b l
 re:et W P e x.ex
 rb:dS W P v x.body
 rl:dS W P z x.els
 fb:FB b w0 W
 tab:dK W b
 ne:px≠b
 tt:147≠5
 hP: ∀k,P k->k<b
section
variable {b px:Nat} {w0 W W':World} {P:Nat->Prop} {cs:Array Value} {e v z:Value} {x:St} {l l':List UInt8}
theorem PS.wr (h:PS b px w0 P cs e v z x l W) (hB:Bu W' b l') (hF:FB b W W'):PS b px w0 P cs e v z x l' W':=
 ⟨hF.keep _ _ _ h.ne h.tt h.box,hB,h.re.keep (hF.keepP h.hP) (fun _ hb _=>hb),h.rb.keep (hF.keepP h.hP) (fun _ hb _=>hb),h.rl.keep (hF.keepP h.hP) (fun _ hb _=>hb),h.fb.trans hF,h.tab.fb hF,h.ne,h.tt,h.hP⟩
theorem PS.ex (h:PS b px w0 P cs e v z x l W) (hE:au W W'):PS b px w0 P cs e v z x l W':=h.wr (h.bu.ext hE) (aQ hE (aF h.bu.lt))
end
theorem eB (x:Ex) (hx:nf x) (hd tl:List UInt8) (P:Nat->Prop) (w:World) (A:Option Addr) (n c b:Nat) (l:List UInt8) (hR:et w P (.slice A n c) x.args) (hP: ∀k,P k->k<b) (hT:dK w b) (hB:Bu w b l) (hl:l.length+hd.length+(cL x).length+tl.length<=1000000000):
  Calls prog 216 #[.pointer (some ⟨b,0,none⟩), .string (an hd), .agg #[.int .i64 x.k, .string (an x.op), .string (an x.nm), .string (an x.tx), .int .i64 x.v, .slice A n c], .string (an tl)] w fun e w'=>e= .returned (.tuple #[])/\Bu w' b (l++(hd++cL x++tl))/\FB b w w':=by
 have HX:=G hx;clear hx;unfold nf at HX;generalize cL x=S at*;generalize hargs:x.args=xs at*;generalize x.k=k at*;generalize x.op=op at*;generalize x.nm=nm at*;generalize x.tx=tx at*;generalize x.v=v at*;have HC0:=G (show PC b w.heap.size w P 206 #[.int .i64 k, .string (an op), .string (an nm), .string (an tx), .int .i64 v, .slice A n c] (.slice A n c) xs l _ from⟨aw w 206 #[.int .i64 k, .string (an op), .string (an nm), .string (an tx), .int .i64 v, .slice A n c],hB.ext (aa w _),hR.keep (.of_ext (aa w _)) (fun _ hb _=>hb),aQ (aa w _) (aF hB.lt),hT.fb (aQ (aa w _) (aF hB.lt)),bO hB.lt,by decide,hP⟩);have hbc:=HC0.out.box.cell;clear hB hR hT;go_enter func216,ntmps216;go_wp2_with (first|(go_at_call 118;refine(cK b l hd _ HC0.out.bu (by omega)).mono ?_;rintro e u1 ⟨rfl,h1,h2⟩;have HC1:=G (HC0.out.wr h1 h2);clear h1 h2 HC0;clear hbc;have hbc:=HC1.out.box.cell)|(go_at_call 241;refine(HX.out P _ A n c b (l++hd) HC1.out.rd hP HC1.out.tab HC1.out.bu (by simp only[ab];omega)).mono ?_;rintro e u2 ⟨rfl,h1,h2⟩;have HC2:=G (HC1.out.wr h1 h2);clear h1 h2 HC1)|(go_at_call 118;refine(cK b (l++hd++S) tl _ HC2.out.bu (by simp only[ab];omega)).mono ?_;rintro e u3 ⟨rfl,h1,h2⟩;have HC3:=G (HC2.out.wr h1 h2);clear h1 h2 HC2))
 go_end0
 exact⟨rfl,by have:=HC3.out.bu;simpa[aJ]using this,HC3.out.fb⟩
def Ef (x:St):Prop:= ∀(P:Nat->Prop) (w:World) (A B C:Option Addr) (n c nb cb nl cl b i:Nat) (l:List UInt8),et w P (.slice A n c) x.ex->dS w P (.slice B nb cb) x.body->dS w P (.slice C nl cl) x.els->(∀k,P k->k<b)->dK w b->Bu w b l->l.length+(d6 x i).length<=1000000000->Calls prog 174 #[.pointer (some ⟨b,0,none⟩), .agg #[.int .i64 x.k, .string (an x.nm), .slice A n c, .slice B nb cb, .slice C nl cl], .int .i64 (i:Int)] w fun e w'=>e= .returned (.tuple #[])/\Bu w' b (l++d6 x i)/\FB b w w'
def uF (x:St):Prop:= ∀(P:Nat->Prop) (w:World) (A B C:Option Addr) (n c nb cb nl cl b i:Nat) (l:List UInt8),et w P (.slice A n c) x.ex->dS w P (.slice B nb cb) x.body->dS w P (.slice C nl cl) x.els->(∀k,P k->k<b)->dK w b->Bu w b l->l.length+(d6 x i).length<=1000000000->Calls prog 217 #[.pointer (some ⟨b,0,none⟩), .agg #[.int .i64 x.k, .string (an x.nm), .slice A n c, .slice B nb cb, .slice C nl cl], .int .i64 (i:Int)] w fun e w'=>e= .returned (.tuple #[])/\Bu w' b (l++d6 x i)/\FB b w w'
def kR (xs:List St):Prop:= ∀(P:Nat->Prop) (w:World) (B:Option Addr) (nb cb b i:Nat) (l:List UInt8),dS w P (.slice B nb cb) xs->(∀k,P k->k<b)->dK w b->Bu w b l->l.length+(fq i (bW xs (i+1))).length<=1000000000->
 Calls prog 121 #[.pointer (some ⟨b,0,none⟩), .slice B nb cb, .int .i64 (i:Int)] w fun e w'=>e= .returned (.tuple #[])/\Bu w' b (l++fq i (bW xs (i+1)))/\FB b w w'
theorem Eu (nm:List UInt8) (body els:List St) (P:Nat->Prop) (w:World) (A B C:Option Addr) (n c nb cb nl cl b i:Nat) (l:List UInt8) (hR:et w P (.slice A n c) []) (hRb:dS w P (.slice B nb cb) body) (hRl:dS w P (.slice C nl cl) els) (hP: ∀k,P k->k<b) (hT:dK w b) (hB:Bu w b l) (S:List UInt8) (hS:d6 (.mk 1 nm [] body els) i=S) (hl:l.length+S.length<=1000000000):
  Calls prog 174 #[.pointer (some ⟨b,0,none⟩), .agg #[.int .i64 1, .string (an nm), .slice A n c, .slice B nb cb, .slice C nl cl], .int .i64 (i:Int)] w fun e w'=>e= .returned (.tuple #[])/\Bu w' b (l++S)/\FB b w w':=by
 have hn:=hR.len;simp only[ag]at hn;obtain rfl:n=0:=hn;have HS:=G (show[118,97,114,32]++nm++[59]=S from by rw[<-hS];rfl);have hlen:4+nm.length+1=S.length:=by rw[<-HS.out];simp only[ab,ae,ag]
 clear hS;have HC0:=G (show PS b w.heap.size w P #[.int .i64 1, .string (an nm), .slice A 0 c, .slice B nb cb, .slice C nl cl] (.slice A 0 c) (.slice B nb cb) (.slice C nl cl) (.mk 1 nm [] body els) l _ from⟨aw w 147 #[.int .i64 1, .string (an nm), .slice A 0 c, .slice B nb cb, .slice C nl cl],hB.ext (aa w _),hR.keep (.of_ext (aa w _)) (fun _ hb _=>hb),hRb.keep (.of_ext (aa w _)) (fun _ hb _=>hb),hRl.keep (.of_ext (aa w _)) (fun _ hb _=>hb),aQ (aa w _) (aF hB.lt),hT.fb (aQ (aa w _) (aF hB.lt)),bO hB.lt,by decide,hP⟩);have hbc:=HC0.out.box.cell;clear hB hR hT hRb hRl;obtain⟨c1,Hc1⟩: ∃c,Hid ([118,97,114,32]++nm=c):=⟨_,G rfl⟩
 have hzc1:c1.length=4+nm.length:=by rw[<-Hc1.out,ab];(try rfl)
 have hsc1:(⟨#[118,97,114,32]⟩:ByteArray)++an nm=an c1:=by rw[<-Hc1.out];exact dQ _ _
 have hmc1: ¬9223372036854775807<4+nm.length:=by omega
 have hkc1: ¬9223372036854775807<nm.length+4:=by omega
 have hqc1l:((⟨#[118,97,114,32]⟩:ByteArray)).size=4:=rfl;have hqc1nm:(an nm).size=nm.length:=aU _;obtain⟨c2,Hc2⟩: ∃c,Hid (c1++[59]=c):=⟨_,G rfl⟩
 have hzc2:c2.length=c1.length+1:=by rw[<-Hc2.out,ab];(try rfl)
 have hsc2:an c1++(⟨#[59]⟩:ByteArray)=an c2:=by rw[<-Hc2.out];exact dQ _ _
 have hmc2: ¬9223372036854775807<c1.length+1:=by omega
 have hkc2: ¬9223372036854775807<1+c1.length:=by omega
 have hqc2c1:(an c1).size=c1.length:=aU _;have hqc2l:((⟨#[59]⟩:ByteArray)).size=1:=rfl;have Hzc1:=G hzc1;clear hzc1;have Hzc2:=G hzc2;clear hzc2;go_enter func174,ntmps174;go_wp2_with fail;refine ay 7 3 [] mixed (by kernel_rfl) trivial ?_;repeat (refine sx ?_ (fun w1 hU=> ?_) ?_;rotate_left;(focus have f1:=(HC0.out.ex hU.un).box.cell;clear hU;go_simp<;>with_reducible rfl);simp only[bH,bG,bF,bE,bD])
 intro zz1 hzz1 hp;clear hp;simp only[ac,aq];have HC1:=G (HC0.out.ex hzz1.un);clear hzz1 hbc HC0;have hbc:=HC1.out.box.cell;go_wp2_with ((go_at_call 118;refine(cK b l c2 _ HC1.out.bu (by(try have a1:=Hzc1.out);(try have a2:=Hzc2.out);(try simp only[ab,ae,ag]);omega)).mono ?_;rintro e u2 ⟨rfl,h1,h2⟩;have HC2:=G (HC1.out.wr h1 h2);clear h1 h2 HC1))
 (try simp only[Exit.inBlock,Exit.then]);refine bodyPost_ret (results_none rfl _ _ _) rfl ?_
 exact⟨rfl,by rw[<-HS.out];have:=HC2.out.bu;rw[<-Hc2.out,<-Hc1.out]at this;simpa[aJ]using this,HC2.out.fb⟩
theorem Et (nm:List UInt8) (body els:List St) (y:Ex) (hy:nf y) (P:Nat->Prop) (w:World) (A B C:Option Addr) (n c nb cb nl cl b i:Nat) (l:List UInt8) (hR:et w P (.slice A n c) [y]) (hRb:dS w P (.slice B nb cb) body) (hRl:dS w P (.slice C nl cl) els) (hP: ∀k,P k->k<b) (hT:dK w b) (hB:Bu w b l) (S:List UInt8) (hS:d6 (.mk 1 nm [y] body els) i=S) (hl:l.length+S.length<=1000000000):
  Calls prog 174 #[.pointer (some ⟨b,0,none⟩), .agg #[.int .i64 1, .string (an nm), .slice A n c, .slice B nb cb, .slice C nl cl], .int .i64 (i:Int)] w fun e w'=>e= .returned (.tuple #[])/\Bu w' b (l++S)/\FB b w w':=by
 have HS:=G (show[118,97,114,32]++nm++[32,61,32]++cL y++[59]=S from by rw[<-hS];rfl);have hlen:4+nm.length+3+(cL y).length+1=S.length:=by rw[<-HS.out];simp only[ab,ae,ag]
 clear hS;have hn:=hR.len;simp only[ae,ag]at hn;obtain rfl:n=1:=hn;obtain⟨b0,o0,a0,hA0,hb0,hP0,y00,y10,y20,y30,y40,y50,hRy0⟩:=hR.at_ 0 (by simp);simp only[aE,aL,aV,a7,cD]at y00 y10 y20 y30 y40 y50 hRy0;obtain⟨B0,d0,rfl,_⟩:=hRy0.form;have HY0:=G (aB y00 (aB y10 (aB y20 (aB y30 (aB y40 y50)))));have HRy0:=G hRy0;clear y00 y10 y20 y30 y40 y50 hRy0;subst hA0;have HC0:=G (show PS b w.heap.size w P #[.int .i64 1, .string (an nm), .slice (some ⟨b0,o0,none⟩) 1 c, .slice B nb cb, .slice C nl cl] (.slice (some ⟨b0,o0,none⟩) 1 c) (.slice B nb cb) (.slice C nl cl) (.mk 1 nm [y] body els) l _ from⟨aw w 147 #[.int .i64 1, .string (an nm), .slice (some ⟨b0,o0,none⟩) 1 c, .slice B nb cb, .slice C nl cl],hB.ext (aa w _),hR.keep (.of_ext (aa w _)) (fun _ hb _=>hb),hRb.keep (.of_ext (aa w _)) (fun _ hb _=>hb),hRl.keep (.of_ext (aa w _)) (fun _ hb _=>hb),aQ (aa w _) (aF hB.lt),hT.fb (aQ (aa w _) (aF hB.lt)),bO hB.lt,by decide,hP⟩);have hbc:=HC0.out.box.cell;clear hB hR hT hRb hRl;obtain⟨c1,Hc1⟩: ∃c,Hid ([118,97,114,32]++nm=c):=⟨_,G rfl⟩
 have hzc1:c1.length=4+nm.length:=by rw[<-Hc1.out,ab];(try rfl)
 have hsc1:(⟨#[118,97,114,32]⟩:ByteArray)++an nm=an c1:=by rw[<-Hc1.out];exact dQ _ _
 have hmc1: ¬9223372036854775807<4+nm.length:=by omega
 have hkc1: ¬9223372036854775807<nm.length+4:=by omega
 have hqc1l:((⟨#[118,97,114,32]⟩:ByteArray)).size=4:=rfl;have hqc1nm:(an nm).size=nm.length:=aU _;obtain⟨c2,Hc2⟩: ∃c,Hid (c1++[32,61,32]=c):=⟨_,G rfl⟩
 have hzc2:c2.length=c1.length+3:=by rw[<-Hc2.out,ab];(try rfl)
 have hsc2:an c1++(⟨#[32,61,32]⟩:ByteArray)=an c2:=by rw[<-Hc2.out];exact dQ _ _
 have hmc2: ¬9223372036854775807<c1.length+3:=by omega
 have hkc2: ¬9223372036854775807<3+c1.length:=by omega
 have hqc2c1:(an c1).size=c1.length:=aU _;have hqc2l:((⟨#[32,61,32]⟩:ByteArray)).size=3:=rfl;have Hzc1:=G hzc1;clear hzc1;have Hzc2:=G hzc2;clear hzc2;go_enter func174,ntmps174;go_wp2_with fail;refine ay 9 3 [] mixed (by kernel_rfl) trivial ?_;repeat (refine sx ?_ (fun w1 hU=> ?_) ?_;rotate_left;(focus have f1:=(HC0.out.ex hU.un).box.cell;have e0:=((HC0.out.ex hU.un).fb.keepP hP).cell (o0) hP0 hb0|>.trans HY0.out.1;have e1:=((HC0.out.ex hU.un).fb.keepP hP).cell (o0+1) hP0 hb0|>.trans HY0.out.2.1;have e2:=((HC0.out.ex hU.un).fb.keepP hP).cell (o0+2) hP0 hb0|>.trans HY0.out.2.2.1;have e3:=((HC0.out.ex hU.un).fb.keepP hP).cell (o0+3) hP0 hb0|>.trans HY0.out.2.2.2.1;have e4:=((HC0.out.ex hU.un).fb.keepP hP).cell (o0+4) hP0 hb0|>.trans HY0.out.2.2.2.2.1;have e5:=((HC0.out.ex hU.un).fb.keepP hP).cell (o0+5) hP0 hb0|>.trans HY0.out.2.2.2.2.2;clear hU;go_simp<;>with_reducible rfl);simp only[bH,bG,bF,bE,bD])
 intro zz1 hzz1 hp;clear hp;simp only[ac,aq];have HC1:=G (HC0.out.ex hzz1.un);clear hzz1 hbc HC0;have hbc:=HC1.out.box.cell;have hlz:=hlen;go_wp2_with (go_at_call 216;refine(eB y hy c2 [59] P _ B0 _ d0 b l (HRy0.out.keep (HC1.out.fb.keepP hP) (fun _ hb _=>hb)) hP HC1.out.tab HC1.out.bu (by(try have a1:=Hzc1.out);(try have a2:=Hzc2.out);simp only[ab,ae,ag];omega)).mono ?_;rintro e u2 ⟨rfl,h1,h2⟩;have HC2:=G (HC1.out.wr h1 h2);clear h1 h2 HC1)
 go_end0
 exact⟨rfl,by rw[<-HS.out];have:=HC2.out.bu;rw[<-Hc2.out,<-Hc1.out]at this;simpa[aJ]using this,HC2.out.fb⟩
theorem FR (nm:List UInt8) (body els:List St) (y:Ex) (hy:nf y) (P:Nat->Prop) (w:World) (A B C:Option Addr) (n c nb cb nl cl b i:Nat) (l:List UInt8) (hR:et w P (.slice A n c) [y]) (hRb:dS w P (.slice B nb cb) body) (hRl:dS w P (.slice C nl cl) els) (hP: ∀k,P k->k<b) (hT:dK w b) (hB:Bu w b l) (S:List UInt8) (hS:d6 (.mk 2 nm [y] body els) i=S) (hl:l.length+S.length<=1000000000):
  Calls prog 174 #[.pointer (some ⟨b,0,none⟩), .agg #[.int .i64 2, .string (an nm), .slice A n c, .slice B nb cb, .slice C nl cl], .int .i64 (i:Int)] w fun e w'=>e= .returned (.tuple #[])/\Bu w' b (l++S)/\FB b w w':=by
 have HS:=G (show nm++[32,61,32]++cL y++[59]=S from by rw[<-hS];rfl);have hlen:nm.length+3+(cL y).length+1=S.length:=by rw[<-HS.out];simp only[ab,ae,ag]
 clear hS;have hn:=hR.len;simp only[ae,ag]at hn;obtain rfl:n=1:=hn;obtain⟨b0,o0,a0,hA0,hb0,hP0,y00,y10,y20,y30,y40,y50,hRy0⟩:=hR.at_ 0 (by simp);simp only[aE,aL,aV,a7,cD]at y00 y10 y20 y30 y40 y50 hRy0;obtain⟨B0,d0,rfl,_⟩:=hRy0.form;have HY0:=G (aB y00 (aB y10 (aB y20 (aB y30 (aB y40 y50)))));have HRy0:=G hRy0;clear y00 y10 y20 y30 y40 y50 hRy0;subst hA0;have HC0:=G (show PS b w.heap.size w P #[.int .i64 2, .string (an nm), .slice (some ⟨b0,o0,none⟩) 1 c, .slice B nb cb, .slice C nl cl] (.slice (some ⟨b0,o0,none⟩) 1 c) (.slice B nb cb) (.slice C nl cl) (.mk 2 nm [y] body els) l _ from⟨aw w 147 #[.int .i64 2, .string (an nm), .slice (some ⟨b0,o0,none⟩) 1 c, .slice B nb cb, .slice C nl cl],hB.ext (aa w _),hR.keep (.of_ext (aa w _)) (fun _ hb _=>hb),hRb.keep (.of_ext (aa w _)) (fun _ hb _=>hb),hRl.keep (.of_ext (aa w _)) (fun _ hb _=>hb),aQ (aa w _) (aF hB.lt),hT.fb (aQ (aa w _) (aF hB.lt)),bO hB.lt,by decide,hP⟩);have hbc:=HC0.out.box.cell;clear hB hR hT hRb hRl;obtain⟨c1,Hc1⟩: ∃c,Hid (nm++[32,61,32]=c):=⟨_,G rfl⟩
 have hzc1:c1.length=nm.length+3:=by rw[<-Hc1.out,ab];(try rfl)
 have hsc1:an nm++(⟨#[32,61,32]⟩:ByteArray)=an c1:=by rw[<-Hc1.out];exact dQ _ _
 have hmc1: ¬9223372036854775807<nm.length+3:=by omega
 have hkc1: ¬9223372036854775807<3+nm.length:=by omega
 have hqc1nm:(an nm).size=nm.length:=aU _;have hqc1l:((⟨#[32,61,32]⟩:ByteArray)).size=3:=rfl;have Hzc1:=G hzc1;clear hzc1;go_enter func174,ntmps174;go_wp2_with fail;refine ay 8 3 [] mixed (by kernel_rfl) trivial ?_;repeat (refine sx ?_ (fun w1 hU=> ?_) ?_;rotate_left;(focus have f1:=(HC0.out.ex hU.un).box.cell;have e0:=((HC0.out.ex hU.un).fb.keepP hP).cell (o0) hP0 hb0|>.trans HY0.out.1;have e1:=((HC0.out.ex hU.un).fb.keepP hP).cell (o0+1) hP0 hb0|>.trans HY0.out.2.1;have e2:=((HC0.out.ex hU.un).fb.keepP hP).cell (o0+2) hP0 hb0|>.trans HY0.out.2.2.1;have e3:=((HC0.out.ex hU.un).fb.keepP hP).cell (o0+3) hP0 hb0|>.trans HY0.out.2.2.2.1;have e4:=((HC0.out.ex hU.un).fb.keepP hP).cell (o0+4) hP0 hb0|>.trans HY0.out.2.2.2.2.1;have e5:=((HC0.out.ex hU.un).fb.keepP hP).cell (o0+5) hP0 hb0|>.trans HY0.out.2.2.2.2.2;clear hU;go_simp<;>with_reducible rfl);simp only[bH,bG,bF,bE,bD])
 intro zz1 hzz1 hp;clear hp;simp only[ac,aq];have HC1:=G (HC0.out.ex hzz1.un);clear hzz1 hbc HC0;have hbc:=HC1.out.box.cell;have hlz:=hlen;go_wp2_with (go_at_call 216;refine(eB y hy c1 [59] P _ B0 _ d0 b l (HRy0.out.keep (HC1.out.fb.keepP hP) (fun _ hb _=>hb)) hP HC1.out.tab HC1.out.bu (by(try have a1:=Hzc1.out);(try have a2:=Hzc2.out);simp only[ab,ae,ag];omega)).mono ?_;rintro e u2 ⟨rfl,h1,h2⟩;have HC2:=G (HC1.out.wr h1 h2);clear h1 h2 HC1)
 go_end0
 exact⟨rfl,by rw[<-HS.out];have:=HC2.out.bu;rw[<-Hc1.out]at this;simpa[aJ]using this,HC2.out.fb⟩
theorem Es (nm:List UInt8) (body els:List St) (P:Nat->Prop) (w:World) (A B C:Option Addr) (n c nb cb nl cl b i:Nat) (l:List UInt8) (hR:et w P (.slice A n c) []) (hRb:dS w P (.slice B nb cb) body) (hRl:dS w P (.slice C nl cl) els) (hP: ∀k,P k->k<b) (hT:dK w b) (hB:Bu w b l) (S:List UInt8) (hS:d6 (.mk 6 nm [] body els) i=S) (hl:l.length+S.length<=1000000000):
  Calls prog 174 #[.pointer (some ⟨b,0,none⟩), .agg #[.int .i64 6, .string (an nm), .slice A n c, .slice B nb cb, .slice C nl cl], .int .i64 (i:Int)] w fun e w'=>e= .returned (.tuple #[])/\Bu w' b (l++S)/\FB b w w':=by
 have hn:=hR.len;simp only[ag]at hn;obtain rfl:n=0:=hn;have HS:=G (show[114,101,116,117,114,110]++[59]=S from by rw[<-hS];rfl);have hlen:6+1=S.length:=by rw[<-HS.out];simp only[ab,ae,ag]
 clear hS;have HC0:=G (show PS b w.heap.size w P #[.int .i64 6, .string (an nm), .slice A 0 c, .slice B nb cb, .slice C nl cl] (.slice A 0 c) (.slice B nb cb) (.slice C nl cl) (.mk 6 nm [] body els) l _ from⟨aw w 147 #[.int .i64 6, .string (an nm), .slice A 0 c, .slice B nb cb, .slice C nl cl],hB.ext (aa w _),hR.keep (.of_ext (aa w _)) (fun _ hb _=>hb),hRb.keep (.of_ext (aa w _)) (fun _ hb _=>hb),hRl.keep (.of_ext (aa w _)) (fun _ hb _=>hb),aQ (aa w _) (aF hB.lt),hT.fb (aQ (aa w _) (aF hB.lt)),bO hB.lt,by decide,hP⟩);have hbc:=HC0.out.box.cell;clear hB hR hT hRb hRl;go_enter func174,ntmps174;go_wp2_with ((go_at_call 118;refine(cK b l [114,101,116,117,114,110,59] _ HC0.out.bu (by(try have a1:=Hzc1.out);(try have a2:=Hzc2.out);(try simp only[ab,ae,ag]);omega)).mono ?_;rintro e u2 ⟨rfl,h1,h2⟩;have HC2:=G (HC0.out.wr h1 h2);clear h1 h2 HC0))
 (try simp only[Exit.inBlock,Exit.then]);refine bodyPost_ret (results_none rfl _ _ _) rfl ?_
 exact⟨rfl,by rw[<-HS.out];have:=HC2.out.bu;simpa[aJ]using this,HC2.out.fb⟩
theorem Ep (nm:List UInt8) (body els:List St) (y:Ex) (hy:nf y) (P:Nat->Prop) (w:World) (A B C:Option Addr) (n c nb cb nl cl b i:Nat) (l:List UInt8) (hR:et w P (.slice A n c) [y]) (hRb:dS w P (.slice B nb cb) body) (hRl:dS w P (.slice C nl cl) els) (hP: ∀k,P k->k<b) (hT:dK w b) (hB:Bu w b l) (S:List UInt8) (hS:d6 (.mk 6 nm [y] body els) i=S) (hl:l.length+S.length<=1000000000):
  Calls prog 174 #[.pointer (some ⟨b,0,none⟩), .agg #[.int .i64 6, .string (an nm), .slice A n c, .slice B nb cb, .slice C nl cl], .int .i64 (i:Int)] w fun e w'=>e= .returned (.tuple #[])/\Bu w' b (l++S)/\FB b w w':=by
 have HS:=G (show[114,101,116,117,114,110]++[32]++cL y++[59]=S from by rw[<-hS];rfl);have hlen:6+1+(cL y).length+1=S.length:=by rw[<-HS.out];simp only[ab,ae,ag]
 clear hS;have hn:=hR.len;simp only[ae,ag]at hn;obtain rfl:n=1:=hn;obtain⟨b0,o0,a0,hA0,hb0,hP0,y00,y10,y20,y30,y40,y50,hRy0⟩:=hR.at_ 0 (by simp);simp only[aE,aL,aV,a7,cD]at y00 y10 y20 y30 y40 y50 hRy0;obtain⟨B0,d0,rfl,_⟩:=hRy0.form;have HY0:=G (aB y00 (aB y10 (aB y20 (aB y30 (aB y40 y50)))));have HRy0:=G hRy0;clear y00 y10 y20 y30 y40 y50 hRy0;subst hA0;have HC0:=G (show PS b w.heap.size w P #[.int .i64 6, .string (an nm), .slice (some ⟨b0,o0,none⟩) 1 c, .slice B nb cb, .slice C nl cl] (.slice (some ⟨b0,o0,none⟩) 1 c) (.slice B nb cb) (.slice C nl cl) (.mk 6 nm [y] body els) l _ from⟨aw w 147 #[.int .i64 6, .string (an nm), .slice (some ⟨b0,o0,none⟩) 1 c, .slice B nb cb, .slice C nl cl],hB.ext (aa w _),hR.keep (.of_ext (aa w _)) (fun _ hb _=>hb),hRb.keep (.of_ext (aa w _)) (fun _ hb _=>hb),hRl.keep (.of_ext (aa w _)) (fun _ hb _=>hb),aQ (aa w _) (aF hB.lt),hT.fb (aQ (aa w _) (aF hB.lt)),bO hB.lt,by decide,hP⟩);have hbc:=HC0.out.box.cell;clear hB hR hT hRb hRl;go_enter func174,ntmps174;have e0:=(HC0.out.fb.keepP hP).cell (o0) hP0 hb0|>.trans HY0.out.1;have e1:=(HC0.out.fb.keepP hP).cell (o0+1) hP0 hb0|>.trans HY0.out.2.1;have e2:=(HC0.out.fb.keepP hP).cell (o0+2) hP0 hb0|>.trans HY0.out.2.2.1;have e3:=(HC0.out.fb.keepP hP).cell (o0+3) hP0 hb0|>.trans HY0.out.2.2.2.1;have e4:=(HC0.out.fb.keepP hP).cell (o0+4) hP0 hb0|>.trans HY0.out.2.2.2.2.1;have e5:=(HC0.out.fb.keepP hP).cell (o0+5) hP0 hb0|>.trans HY0.out.2.2.2.2.2;go_wp2_with (go_at_call 216;refine(eB y hy [114,101,116,117,114,110,32] [59] P _ B0 _ d0 b l (HRy0.out.keep (HC0.out.fb.keepP hP) (fun _ hb _=>hb)) hP HC0.out.tab HC0.out.bu (by(try have a1:=Hzc1.out);(try have a2:=Hzc2.out);simp only[ab,ae,ag];omega)).mono ?_;rintro e u2 ⟨rfl,h1,h2⟩;have HC2:=G (HC0.out.wr h1 h2);clear h1 h2 HC0)
 go_end0
 exact⟨rfl,by rw[<-HS.out];have:=HC2.out.bu;simpa[aJ]using this,HC2.out.fb⟩
theorem FM (nm:List UInt8) (body els:List St) (y:Ex) (hy:nf y) (P:Nat->Prop) (w:World) (A B C:Option Addr) (n c nb cb nl cl b i:Nat) (l:List UInt8) (hR:et w P (.slice A n c) [y]) (hRb:dS w P (.slice B nb cb) body) (hRl:dS w P (.slice C nl cl) els) (hP: ∀k,P k->k<b) (hT:dK w b) (hB:Bu w b l) (S:List UInt8) (hS:d6 (.mk 7 nm [y] body els) i=S) (hl:l.length+S.length<=1000000000):
  Calls prog 174 #[.pointer (some ⟨b,0,none⟩), .agg #[.int .i64 7, .string (an nm), .slice A n c, .slice B nb cb, .slice C nl cl], .int .i64 (i:Int)] w fun e w'=>e= .returned (.tuple #[])/\Bu w' b (l++S)/\FB b w w':=by
 have HS:=G (show cL y++[59]=S from by rw[<-hS];rfl);have hlen:(cL y).length+1=S.length:=by rw[<-HS.out];simp only[ab,ae,ag]
 clear hS;have hn:=hR.len;simp only[ae,ag]at hn;obtain rfl:n=1:=hn;obtain⟨b0,o0,a0,hA0,hb0,hP0,y00,y10,y20,y30,y40,y50,hRy0⟩:=hR.at_ 0 (by simp);simp only[aE,aL,aV,a7,cD]at y00 y10 y20 y30 y40 y50 hRy0;obtain⟨B0,d0,rfl,_⟩:=hRy0.form;have HY0:=G (aB y00 (aB y10 (aB y20 (aB y30 (aB y40 y50)))));have HRy0:=G hRy0;clear y00 y10 y20 y30 y40 y50 hRy0;subst hA0;have HC0:=G (show PS b w.heap.size w P #[.int .i64 7, .string (an nm), .slice (some ⟨b0,o0,none⟩) 1 c, .slice B nb cb, .slice C nl cl] (.slice (some ⟨b0,o0,none⟩) 1 c) (.slice B nb cb) (.slice C nl cl) (.mk 7 nm [y] body els) l _ from⟨aw w 147 #[.int .i64 7, .string (an nm), .slice (some ⟨b0,o0,none⟩) 1 c, .slice B nb cb, .slice C nl cl],hB.ext (aa w _),hR.keep (.of_ext (aa w _)) (fun _ hb _=>hb),hRb.keep (.of_ext (aa w _)) (fun _ hb _=>hb),hRl.keep (.of_ext (aa w _)) (fun _ hb _=>hb),aQ (aa w _) (aF hB.lt),hT.fb (aQ (aa w _) (aF hB.lt)),bO hB.lt,by decide,hP⟩);have hbc:=HC0.out.box.cell;clear hB hR hT hRb hRl;go_enter func174,ntmps174;have e0:=(HC0.out.fb.keepP hP).cell (o0) hP0 hb0|>.trans HY0.out.1;have e1:=(HC0.out.fb.keepP hP).cell (o0+1) hP0 hb0|>.trans HY0.out.2.1;have e2:=(HC0.out.fb.keepP hP).cell (o0+2) hP0 hb0|>.trans HY0.out.2.2.1;have e3:=(HC0.out.fb.keepP hP).cell (o0+3) hP0 hb0|>.trans HY0.out.2.2.2.1;have e4:=(HC0.out.fb.keepP hP).cell (o0+4) hP0 hb0|>.trans HY0.out.2.2.2.2.1;have e5:=(HC0.out.fb.keepP hP).cell (o0+5) hP0 hb0|>.trans HY0.out.2.2.2.2.2;go_wp2_with (go_at_call 216;refine(eB y hy [] [59] P _ B0 _ d0 b l (HRy0.out.keep (HC0.out.fb.keepP hP) (fun _ hb _=>hb)) hP HC0.out.tab HC0.out.bu (by(try have a1:=Hzc1.out);(try have a2:=Hzc2.out);simp only[ab,ae,ag];omega)).mono ?_;rintro e u2 ⟨rfl,h1,h2⟩;have HC2:=G (HC0.out.wr h1 h2);clear h1 h2 HC0)
 go_end0
 exact⟨rfl,by rw[<-HS.out];have:=HC2.out.bu;simpa[aJ]using this,HC2.out.fb⟩
theorem FP (nm:List UInt8) (body els:List St) (y z:Ex) (hy:nf y) (hz:nf z) (P:Nat->Prop) (w:World) (A B C:Option Addr) (n c nb cb nl cl b i:Nat) (l:List UInt8) (hR:et w P (.slice A n c) [y,z]) (hRb:dS w P (.slice B nb cb) body) (hRl:dS w P (.slice C nl cl) els) (hP: ∀k,P k->k<b) (hT:dK w b) (hB:Bu w b l) (S:List UInt8) (hS:d6 (.mk 3 nm [y,z] body els) i=S) (hl:l.length+S.length<=1000000000):
  Calls prog 174 #[.pointer (some ⟨b,0,none⟩), .agg #[.int .i64 3, .string (an nm), .slice A n c, .slice B nb cb, .slice C nl cl], .int .i64 (i:Int)] w fun e w'=>e= .returned (.tuple #[])/\Bu w' b (l++S)/\FB b w w':=by
 have HS:=G (show nm++[91]++cL y++[93]++([32,61,32]++cL z++[59])=S from by rw[<-hS];rfl);have hlen:nm.length+1+(cL y).length+1+(3+(cL z).length+1)=S.length:=by rw[<-HS.out];simp only[ab,ae,ag]
 clear hS;have hn:=hR.len;simp only[ae,ag]at hn;obtain rfl:n=2:=hn;obtain⟨b0,o0,a0,hA0,hb0,hP0,y00,y10,y20,y30,y40,y50,hRy0⟩:=hR.at_ 0 (by simp);simp only[aE,aL,aV,a7,cD]at y00 y10 y20 y30 y40 y50 hRy0;obtain⟨B0,d0,rfl,_⟩:=hRy0.form;subst hA0;obtain⟨b1,o1,a1,hA1,hb1,hP1,y01,y11,y21,y31,y41,y51,hRy1⟩:=hR.at_ 1 (by simp);simp only[aE,aL,aV,a7,cD]at y01 y11 y21 y31 y41 y51 hRy1;obtain⟨B1,d1,rfl,_⟩:=hRy1.form;injection hA1 with hA1;injection hA1 with hA1 hA2;subst hA1 hA2;have HY0:=G (aB y00 (aB y10 (aB y20 (aB y30 (aB y40 y50)))));have HRy0:=G hRy0;clear y00 y10 y20 y30 y40 y50 hRy0;have HY1:=G (aB y01 (aB y11 (aB y21 (aB y31 (aB y41 y51)))));have HRy1:=G hRy1;clear y01 y11 y21 y31 y41 y51 hRy1;have HC0:=G (show PS b w.heap.size w P #[.int .i64 3, .string (an nm), .slice (some ⟨b0,o0,none⟩) 2 c, .slice B nb cb, .slice C nl cl] (.slice (some ⟨b0,o0,none⟩) 2 c) (.slice B nb cb) (.slice C nl cl) (.mk 3 nm [y,z] body els) l _ from⟨aw w 147 #[.int .i64 3, .string (an nm), .slice (some ⟨b0,o0,none⟩) 2 c, .slice B nb cb, .slice C nl cl],hB.ext (aa w _),hR.keep (.of_ext (aa w _)) (fun _ hb _=>hb),hRb.keep (.of_ext (aa w _)) (fun _ hb _=>hb),hRl.keep (.of_ext (aa w _)) (fun _ hb _=>hb),aQ (aa w _) (aF hB.lt),hT.fb (aQ (aa w _) (aF hB.lt)),bO hB.lt,by decide,hP⟩);have hbc:=HC0.out.box.cell;clear hB hR hT hRb hRl;obtain⟨c1,Hc1⟩: ∃c,Hid (nm++[91]=c):=⟨_,G rfl⟩
 have hzc1:c1.length=nm.length+1:=by rw[<-Hc1.out,ab];(try rfl)
 have hsc1:an nm++(⟨#[91]⟩:ByteArray)=an c1:=by rw[<-Hc1.out];exact dQ _ _
 have hmc1: ¬9223372036854775807<nm.length+1:=by omega
 have hkc1: ¬9223372036854775807<1+nm.length:=by omega
 have hqc1nm:(an nm).size=nm.length:=aU _;have hqc1l:((⟨#[91]⟩:ByteArray)).size=1:=rfl;have Hzc1:=G hzc1;clear hzc1;go_enter func174,ntmps174;go_wp2_with fail;refine ay 8 3 [] mixed (by kernel_rfl) trivial ?_;repeat (refine sx ?_ (fun w1 hU=> ?_) ?_;rotate_left;(focus have f1:=(HC0.out.ex hU.un).box.cell;have e0:=((HC0.out.ex hU.un).fb.keepP hP).cell (o0) hP0 hb0|>.trans HY0.out.1;have e1:=((HC0.out.ex hU.un).fb.keepP hP).cell (o0+1) hP0 hb0|>.trans HY0.out.2.1;have e2:=((HC0.out.ex hU.un).fb.keepP hP).cell (o0+2) hP0 hb0|>.trans HY0.out.2.2.1;have e3:=((HC0.out.ex hU.un).fb.keepP hP).cell (o0+3) hP0 hb0|>.trans HY0.out.2.2.2.1;have e4:=((HC0.out.ex hU.un).fb.keepP hP).cell (o0+4) hP0 hb0|>.trans HY0.out.2.2.2.2.1;have e5:=((HC0.out.ex hU.un).fb.keepP hP).cell (o0+5) hP0 hb0|>.trans HY0.out.2.2.2.2.2;clear hU;go_simp<;>with_reducible rfl);simp only[bH,bG,bF,bE,bD])
 intro zz1 hzz1 hp;clear hp;simp only[ac,aq];have HC1:=G (HC0.out.ex hzz1.un);clear hzz1 hbc HC0;have hbc:=HC1.out.box.cell;go_wp2_with (first|(go_at_call 216;refine(eB y hy c1 [93] P _ B0 _ d0 b l (HRy0.out.keep (HC1.out.fb.keepP hP) (fun _ hb _=>hb)) hP HC1.out.tab HC1.out.bu (by(try have a1:=Hzc1.out);(try have a2:=Hzc2.out);simp only[ab,ae,ag];omega)).mono ?_;rintro e u2 ⟨rfl,h1,h2⟩;have HC2:=G (HC1.out.wr h1 h2);clear h1 h2 HC1;clear hbc;have hbc:=HC2.out.box.cell;have e0:=(HC2.out.fb.keepP hP).cell (o0+6) hP1 hb1|>.trans HY1.out.1;have e1:=(HC2.out.fb.keepP hP).cell (o0+6+1) hP1 hb1|>.trans HY1.out.2.1;have e2:=(HC2.out.fb.keepP hP).cell (o0+6+2) hP1 hb1|>.trans HY1.out.2.2.1;have e3:=(HC2.out.fb.keepP hP).cell (o0+6+3) hP1 hb1|>.trans HY1.out.2.2.2.1;have e4:=(HC2.out.fb.keepP hP).cell (o0+6+4) hP1 hb1|>.trans HY1.out.2.2.2.2.1;have e5:=(HC2.out.fb.keepP hP).cell (o0+6+5) hP1 hb1|>.trans HY1.out.2.2.2.2.2)|(go_at_call 216;refine(eB z hz [32,61,32] [59] P _ B1 _ d1 b (l++(c1++cL y++[93])) (HRy1.out.keep (HC2.out.fb.keepP hP) (fun _ hb _=>hb)) hP HC2.out.tab HC2.out.bu (by(try have a1:=Hzc1.out);(try have a2:=Hzc2.out);simp only[ab,ae,ag];omega)).mono ?_;rintro e u3 ⟨rfl,h1,h2⟩;have HC3:=G (HC2.out.wr h1 h2);clear h1 h2 HC2))
 go_end0
 exact⟨rfl,by rw[<-HS.out];have:=HC3.out.bu;rw[<-Hc1.out]at this;simpa[aJ]using this,HC3.out.fb⟩
theorem FN (nm:List UInt8) (body els:List St) (y:Ex) (hy:nf y) (hbl:kR body) (P:Nat->Prop) (w:World) (A B C:Option Addr) (n c nb cb nl cl b i:Nat) (l:List UInt8) (hR:et w P (.slice A n c) [y]) (hRb:dS w P (.slice B nb cb) body) (hRl:dS w P (.slice C nl cl) els) (hP: ∀k,P k->k<b) (hT:dK w b) (hB:Bu w b l) (S:List UInt8) (hS:d6 (.mk 5 nm [y] body els) i=S) (hl:l.length+S.length<=1000000000):
  Calls prog 174 #[.pointer (some ⟨b,0,none⟩), .agg #[.int .i64 5, .string (an nm), .slice A n c, .slice B nb cb, .slice C nl cl], .int .i64 (i:Int)] w fun e w'=>e= .returned (.tuple #[])/\Bu w' b (l++S)/\FB b w w':=by
 have HS:=G (show[119,104,105,108,101,32]++cL y++[32]++fq i (bW body (i+1))=S from by rw[<-hS];rfl);have hlen:6+(cL y).length+1+(fq i (bW body (i+1))).length=S.length:=by rw[<-HS.out];simp only[ab,ae,ag]
 clear hS;have hn:=hR.len;simp only[ae,ag]at hn;obtain rfl:n=1:=hn;obtain⟨b0,o0,a0,hA0,hb0,hP0,y00,y10,y20,y30,y40,y50,hRy0⟩:=hR.at_ 0 (by simp);simp only[aE,aL,aV,a7,cD]at y00 y10 y20 y30 y40 y50 hRy0;obtain⟨B0,d0,rfl,_⟩:=hRy0.form;have HY0:=G (aB y00 (aB y10 (aB y20 (aB y30 (aB y40 y50)))));have HRy0:=G hRy0;clear y00 y10 y20 y30 y40 y50 hRy0;subst hA0;have HC0:=G (show PS b w.heap.size w P #[.int .i64 5, .string (an nm), .slice (some ⟨b0,o0,none⟩) 1 c, .slice B nb cb, .slice C nl cl] (.slice (some ⟨b0,o0,none⟩) 1 c) (.slice B nb cb) (.slice C nl cl) (.mk 5 nm [y] body els) l _ from⟨aw w 147 #[.int .i64 5, .string (an nm), .slice (some ⟨b0,o0,none⟩) 1 c, .slice B nb cb, .slice C nl cl],hB.ext (aa w _),hR.keep (.of_ext (aa w _)) (fun _ hb _=>hb),hRb.keep (.of_ext (aa w _)) (fun _ hb _=>hb),hRl.keep (.of_ext (aa w _)) (fun _ hb _=>hb),aQ (aa w _) (aF hB.lt),hT.fb (aQ (aa w _) (aF hB.lt)),bO hB.lt,by decide,hP⟩);have hbc:=HC0.out.box.cell;clear hB hR hT hRb hRl;unfold kR at hbl;go_enter func174,ntmps174;have e0:=(HC0.out.fb.keepP hP).cell (o0) hP0 hb0|>.trans HY0.out.1;have e1:=(HC0.out.fb.keepP hP).cell (o0+1) hP0 hb0|>.trans HY0.out.2.1;have e2:=(HC0.out.fb.keepP hP).cell (o0+2) hP0 hb0|>.trans HY0.out.2.2.1;have e3:=(HC0.out.fb.keepP hP).cell (o0+3) hP0 hb0|>.trans HY0.out.2.2.2.1;have e4:=(HC0.out.fb.keepP hP).cell (o0+4) hP0 hb0|>.trans HY0.out.2.2.2.2.1;have e5:=(HC0.out.fb.keepP hP).cell (o0+5) hP0 hb0|>.trans HY0.out.2.2.2.2.2;go_wp2_with (first|(go_at_call 216;refine(eB y hy [119,104,105,108,101,32] [32] P _ B0 _ d0 b l (HRy0.out.keep (HC0.out.fb.keepP hP) (fun _ hb _=>hb)) hP HC0.out.tab HC0.out.bu (by(try have a1:=Hzc1.out);(try have a2:=Hzc2.out);simp only[ab,ae,ag];omega)).mono ?_;rintro e u1 ⟨rfl,h1,h2⟩;have HC1:=G (HC0.out.wr h1 h2);clear h1 h2 HC0;clear hbc;have hbc:=HC1.out.box.cell)|(go_at_call 121;refine(hbl P _ B nb cb b i (l++([119,104,105,108,101,32]++cL y++[32])) HC1.out.rb hP HC1.out.tab HC1.out.bu (by(try have a1:=Hzc1.out);(try have a2:=Hzc2.out);simp only[ab,ae,ag];omega)).mono ?_;rintro e u2 ⟨rfl,h1,h2⟩;have HC2:=G (HC1.out.wr h1 h2);clear h1 h2 HC1))
 go_end0
 exact⟨rfl,by rw[<-HS.out];have:=HC2.out.bu;simpa[aJ]using this,HC2.out.fb⟩
theorem FO (nm:List UInt8) (body els:List St) (xs:List Ex) (hch:uF (.mk 4 nm xs body els)) (P:Nat->Prop) (w:World) (A B C:Option Addr) (n c nb cb nl cl b i:Nat) (l:List UInt8) (hR:et w P (.slice A n c) xs) (hRb:dS w P (.slice B nb cb) body) (hRl:dS w P (.slice C nl cl) els) (hP: ∀k,P k->k<b) (hT:dK w b) (hB:Bu w b l) (S:List UInt8) (hS:d6 (.mk 4 nm xs body els) i=S) (hl:l.length+S.length<=1000000000):
  Calls prog 174 #[.pointer (some ⟨b,0,none⟩), .agg #[.int .i64 4, .string (an nm), .slice A n c, .slice B nb cb, .slice C nl cl], .int .i64 (i:Int)] w fun e w'=>e= .returned (.tuple #[])/\Bu w' b (l++S)/\FB b w w':=by
 unfold uF at hch;have HC0:=G (show PS b w.heap.size w P #[.int .i64 4, .string (an nm), .slice A n c, .slice B nb cb, .slice C nl cl] (.slice A n c) (.slice B nb cb) (.slice C nl cl) (.mk 4 nm xs body els) l _ from⟨aw w 147 #[.int .i64 4, .string (an nm), .slice A n c, .slice B nb cb, .slice C nl cl],hB.ext (aa w _),hR.keep (.of_ext (aa w _)) (fun _ hb _=>hb),hRb.keep (.of_ext (aa w _)) (fun _ hb _=>hb),hRl.keep (.of_ext (aa w _)) (fun _ hb _=>hb),aQ (aa w _) (aF hB.lt),hT.fb (aQ (aa w _) (aF hB.lt)),bO hB.lt,by decide,hP⟩);have hbc:=HC0.out.box.cell;clear hB hR hT hRb hRl;go_enter func174,ntmps174;go_wp2_with (go_at_call 217;refine(hch P _ A B C n c nb cb nl cl b i l HC0.out.re HC0.out.rb HC0.out.rl hP HC0.out.tab HC0.out.bu (by rw[hS];exact hl)).mono ?_;rintro e u1 ⟨rfl,h1,h2⟩;have HC1:=G (HC0.out.wr h1 h2);clear h1 h2 HC0)
 go_end0
 exact⟨rfl,by rw[<-hS];exact HC1.out.bu,HC1.out.fb⟩
end
end Go.Proofs.YtoedmpgicdekmaaGreatDoor
