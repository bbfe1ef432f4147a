/-
  Parts of the proof: PrB PrC.
-/
import Derived.Test.YtelplgkppalmfaaGreatDoorPs00
import Derived.Lib.AppendIntMem
import Derived.Test.YtelplgkppalmfaaGreatDoorPs19
import Derived.Test.YtelplgkppalmfaaGreatDoorPs20
import Derived.Test.YtelplgkppalmfaaGreatDoorPs21
set_option maxRecDepth 100000
set_option maxHeartbeats 8000000
set_option linter.unusedVariables false
set_option linter.unusedSimpArgs false
namespace Go.Proofs.YtelplgkppalmfaaGreatDoor
open Go.Proofs.Tryz
section
open Go.RowKit
def cj (sep:List UInt8):List (List UInt8)->List UInt8
 | []=>[]
 |x::r=>x++r.flatMap (fun y=>sep++y)
theorem kE (sep:List UInt8) (l:List (List UInt8)) (x:List UInt8):cj sep (l++[x])=cj sep l++((if l=[]then[]else sep)++x):=by
 cases l with
 |nil=>simp[cj]
 |cons y r=>simp[cj]
def iF (b:Bool) (s:List UInt8):List UInt8:=if b then 40::(s++[41])else s
def qW (k:Int) (op nm tx:List UInt8) (v:Int) (ps:List Int) (ss:List (List UInt8)):List UInt8:=
 if k=1 then fw v.toNat
 else if k=2 then ie tx
 else if k=3 then nm
 else if k=4 then nm++[91]++ss.headD []++[93]
 else if k=5 then nm++[40]++cj [44,32] ss++[41]
 else if k=6 then op++iF (decide (ps.headD 0<7)) (ss.headD [])
 else if k=7 then iF (decide (ps.headD 0<eW op)) (ss.headD [])++([32]++op++[32])++iF (decide (ps.tail.headD 0<=eW op)) (ss.tail.headD [])
 else[]
mutual
def a7:Ex->List UInt8| .mk k op nm tx v a=>qW k op nm tx v (a.map Ex.prec) (c8 a)
def c8:List Ex->List (List UInt8)| []=>[]|x::r=>a7 x::c8 r
end
theorem gz: ∀l,c8 l=l.map a7
 | []=>rfl
 |x::r=>by rw[c8,gz r];rfl
theorem vr: ∀n,Lib.decDigits n=fw n:=fun n=>by
 induction n using Nat.strongRecOn with
 | _ n ih=>
  rw[Lib.decDigits,fw];split
  ·rfl
  ·rw[ih (n/10) (by omega)]
theorem rn (l:List UInt8):(ie l).length<=2*l.length+2:=by
 have:=(fj l).2;simp only[ie,ac,aa,af];omega
theorem qw {v:Int} (h:v<=2147483647):(fw v.toNat).length<=10:=jY 9 v.toNat (by omega)
theorem ml (b:Bool) (s:List UInt8):(iF b s).length<=s.length+2:=by
 cases b<;>simp[iF]
theorem od (sep:List UInt8): ∀l:List (List UInt8),(cj sep l).length<=(l.map fun s=>s.length+sep.length).sum
 | []=>by simp[cj]
 |x::r=>by
  have:(r.flatMap fun y=>sep++y).length=(r.map fun s=>s.length+sep.length).sum:=by
   rw[gO]
   congr 1
   apply List.map_congr_left;intro y _;simp;omega
  simp only[cj,aa,cA,eM,this];omega
theorem dP {P:Nat->Prop} {a b c:World} (h:cV P a b) (k:cV P b c):cV P a c:=⟨aS h.1 k.1,fun x hP hx=>(k.2 x hP (an hx h.1)).trans (h.2 x hP hx)⟩
def dQ (w:World) (b:Nat):Prop:=Lib.TabIs prog w "internal/strconv.uint64pow10" .u64 Lib.pow10Tab/\1<b
theorem dQ.fb {w w':World} {b:Nat} (h:dQ w b) (hF:FB b w w'):dQ w' b:=by
 refine⟨?_,h.2⟩;have h1:=h.1;have hg:prog.globalNamed "internal/strconv.uint64pow10" =some 1:=by kernel_rfl
 have hb:=hF.below.block _ h.2;unfold Lib.TabIs World.var? at h1⊢;rw[hg]at h1⊢;simp only[gf]at h1⊢;rw[hb];exact h1
theorem qq (n:Int) (h0:0<=n) (h1:n<=9223372036854775807) (w:World) (b:Nat) (ht:dQ w b):Calls prog 86 #[.int .i64 n] w fun e w'=>e= .returned (.string (ae (fw n.toNat)))/\al w w':=by
 refine(Tryz.strconv_Itoa n (by omega) h1 w ht.1).mono ?_;rintro e w' ⟨rfl,k,os,rfl⟩;have:Lib.itoa n=fw n.toNat:=by unfold Lib.itoa;rw[if_neg (by omega),vr]
 rw[this];exact⟨rfl,Lib.below_grow _ w (ag _) k os⟩
structure PC (b px:Nat) (w0:World) (P:Nat->Prop) (t:TypeId) (cs:Array Value) (v:Value) (xs:List Ex) (l:List UInt8) (W:World):Prop where
 box:aT W px t cs
 bu:Bu W b l
 rd:bZ W P v xs
 fb:FB b w0 W
 tab:dQ W b
 ne:px≠b
 tt:t≠5
 hP: ∀k,P k->k<b
section
variable {b px:Nat} {w0 W W':World} {P:Nat->Prop} {t:TypeId} {cs:Array Value} {v:Value} {xs:List Ex} {l l':List UInt8}
theorem PC.wr (h:PC b px w0 P t cs v xs l W) (hB:Bu W' b l') (hF:FB b W W'):PC b px w0 P t cs v xs l' W':=
 ⟨hF.keep _ _ _ h.ne h.tt h.box,hB,h.rd.keep (hF.keepP h.hP) (fun _ hb _=>hb),h.fb.trans hF,h.tab.fb hF,h.ne,h.tt,h.hP⟩
theorem PC.ex (h:PC b px w0 P t cs v xs l W) (hE:al W W'):PC b px w0 P t cs v xs l W':=h.wr (h.bu.ext hE) (a6 hE (aH h.bu.lt))
end
theorem k_ {b:Nat} {w w':World} (h:FB b w.drew w'):FB b w w':=⟨⟨h.below.os,h.below.tape,h.below.output,h.below.size,h.below.block⟩,h.keep⟩
section
variable {P:Program} {ops:Array Oper} {Q:Exit->Act->World->Prop}
theorem gR {id:Nat} {a:Act} {w:World} (b m f:Nat) (l:List tK) (x:Nat) (hm:P.follows .mixedOrders=true) (hok:yJ ops m a.tmps.size=true) (hbw:b<=w.heap.size)
  (hs:jQ al l) (hx:mx x (fun a c=>b<=a.heap.size->FB b a c) l)
  (h:ee P Q ops f (eQ l) (some x) (fun _=>false) al (fun a c=>b<=a.heap.size->FB b a c) w.drew (fun a Φ=> ∀w',FB b w w'->(∀p∈Φ,p.2 w')->wpList P ops Q (ops.toList.drop m) a w') (ops.toList.take m) 0 a []):(Code.region id ops true).wp P Q a w:=by
 refine hZ m f (eQ l) (some x) al (fun a c=>b<=a.heap.size->FB b a c) hm hok aG (fun a c d h1 h2 ha=>(h1 ha).trans (h2 (aS ha (h1 ha).below.size))) (fun a c h ha=>a6 h ha) (fun _ _ _=>al.trans) hs.out hx.out ?_;refine ee.fin (fun a Φ h w' h1 h2=>h w' ?_ h2) _ _ _ _ h;have h3:=h1 hbw;exact⟨⟨h3.below.os,h3.below.tape,h3.below.output,h3.below.size,h3.below.block⟩,h3.keep⟩
end
def l6 (x:Ex):Prop:= ∀(P:Nat->Prop) (w:World) (A:Option Addr) (n c b:Nat) (l:List UInt8),bZ w P (.slice A n c) x.args->(∀k,P k->k<b)->dQ w b->Bu w b l->l.length+(a7 x).length<=1000000000->
 Calls prog 166 #[.pointer (some ⟨b,0,none⟩), .agg #[.int .i64 x.k, .string (ae x.op), .string (ae x.nm), .string (ae x.tx), .int .i64 x.v, .slice A n c]] w fun e w'=>e= .returned (.tuple #[])/\Bu w' b (l++a7 x)/\FB b w w'
theorem oW (x:Ex) (hx:l6 x) (pb:Bool) (P:Nat->Prop) (w:World) (A:Option Addr) (n c b:Nat) (l:List UInt8) (hR:bZ w P (.slice A n c) x.args) (hP: ∀k,P k->k<b) (hT:dQ w b) (hB:Bu w b l) (hl:l.length+(iF pb (a7 x)).length<=1000000000):
  Calls prog 180 #[.pointer (some ⟨b,0,none⟩), .agg #[.int .i64 x.k, .string (ae x.op), .string (ae x.nm), .string (ae x.tx), .int .i64 x.v, .slice A n c], .bool pb] w fun e w'=>e= .returned (.tuple #[])/\Bu w' b (l++iF pb (a7 x))/\FB b w w':=by
 have HX:=G hx;clear hx;unfold l6 at HX;generalize a7 x=S at*;generalize hargs:x.args=xs at*;generalize x.k=k at*;generalize x.op=op at*;generalize x.nm=nm at*;generalize x.tx=tx at*;generalize x.v=v at*;have HC0:=G (show PC b w.heap.size w P 131 #[.int .i64 k, .string (ae op), .string (ae nm), .string (ae tx), .int .i64 v, .slice A n c] (.slice A n c) xs l _ from⟨ai w 131 #[.int .i64 k, .string (ae op), .string (ae nm), .string (ae tx), .int .i64 v, .slice A n c],hB.ext (O w _),hR.keep (.of_ext (O w _)) (fun _ hb _=>hb),a6 (O w _) (aH hB.lt),hT.fb (a6 (O w _) (aH hB.lt)),bL hB.lt,by decide,hP⟩);have hbc:=HC0.out.box.cell;clear hB hR hT
 cases pb with
 |true=>
  have hl:l.length+(S.length+2)<=1000000000:=by simpa[iF]using hl
  go_enter func180,ntmps180;go_wp2_with (first|(go_at_call 85;refine(cz b l [40] _ HC0.out.bu (by simp only[ac,af];omega)).mono ?_;rintro e u1 ⟨rfl,h1,h2⟩;have HC1:=G (HC0.out.wr h1 h2);clear h1 h2 HC0;clear hbc;have hbc:=HC1.out.box.cell)|(go_at_call 166;refine(HX.out P _ A n c b (l++[40]) HC1.out.rd hP HC1.out.tab HC1.out.bu (by simp only[aa,ac,af];omega)).mono ?_;rintro e u2 ⟨rfl,h1,h2⟩;have HC2:=G (HC1.out.wr h1 h2);clear h1 h2 HC1)|(go_at_call 85;refine(cz b (l++[40]++S) [41] _ HC2.out.bu (by simp only[aa,ac,af];omega)).mono ?_;rintro e u3 ⟨rfl,h1,h2⟩;have HC3:=G (HC2.out.wr h1 h2);clear h1 h2 HC2))
  go_end0
  exact⟨rfl,by have:=HC3.out.bu;simpa[iF,az]using this,HC3.out.fb⟩
 |false=>
  have hl:l.length+S.length<=1000000000:=hl;go_enter func180,ntmps180;go_wp2_with (go_at_call 166;refine(HX.out P _ A n c b l HC0.out.rd hP HC0.out.tab HC0.out.bu (by omega)).mono ?_;rintro e u2 ⟨rfl,h1,h2⟩;have HC2:=G (HC0.out.wr h1 h2);clear h1 h2 HC0)
  go_end0
  exact⟨rfl,HC2.out.bu,HC2.out.fb⟩
theorem zL (op nm tx:List UInt8) (v:Int) (xs:List Ex) (h0:0<=v) (h1:v<=2147483647) (P:Nat->Prop) (w:World) (A:Option Addr) (n c b:Nat) (l:List UInt8) (hR:bZ w P (.slice A n c) xs) (hP: ∀k,P k->k<b) (hT:dQ w b) (hB:Bu w b l) (S:List UInt8) (hS:a7 (.mk 1 op nm tx v xs)=S) (hl:l.length+S.length<=1000000000):
  Calls prog 166 #[.pointer (some ⟨b,0,none⟩), .agg #[.int .i64 1, .string (ae op), .string (ae nm), .string (ae tx), .int .i64 v, .slice A n c]] w fun e w'=>e= .returned (.tuple #[])/\Bu w' b (l++S)/\FB b w w':=by
 have HS:=G (show fw v.toNat=S from by rw[<-hS];rfl);have hlen:(fw v.toNat).length=S.length:=by rw[HS.out]
 clear hS;have HC0:=G (show PC b w.heap.size w P 131 #[.int .i64 1, .string (ae op), .string (ae nm), .string (ae tx), .int .i64 v, .slice A n c] (.slice A n c) xs l _ from⟨ai w 131 #[.int .i64 1, .string (ae op), .string (ae nm), .string (ae tx), .int .i64 v, .slice A n c],hB.ext (O w _),hR.keep (.of_ext (O w _)) (fun _ hb _=>hb),a6 (O w _) (aH hB.lt),hT.fb (a6 (O w _) (aH hB.lt)),bL hB.lt,by decide,hP⟩);have hbc:=HC0.out.box.cell;clear hB hR hT;have HIt:=G (fun w h=>qq v h0 (by omega) w b h);generalize fw v.toNat=D at*;go_enter func166,ntmps166;go_wp2_with fail;refine am 6 3 [(5,fun x=>x= .string (ae D),fun _ _=>True)] mixed (by kernel_rfl) ⟨fun _ _ _ _ _=>trivial,trivial⟩ ?_;repeat (refine sx ?_ (fun w1 hU=> ?_) ?_;rotate_left;(focus have f1:=(HC0.out.ex hU.un).box.cell;clear hU;go_simp<;>with_reducible rfl);simp only[bf,be,bc,a_,a8])
 refine so (fun w6 hU hp K hK=> ?_) ?_
 ·have hT6:=(HC0.out.ex hU.un).tab;clear hp hU;go_simp;refine(HIt.out w6 hT6).mono ?_;rintro e w7 ⟨rfl,hE⟩;exact hK _ _ hE rfl trivial
 rintro _ rfl;simp only[bf,be,bc,a_,a8];repeat (refine sx ?_ (fun w1 hU=> ?_) ?_;rotate_left;(focus have f1:=(HC0.out.ex hU.un).box.cell;clear hU;go_simp<;>with_reducible rfl);simp only[bf,be,bc,a_,a8])
 intro z1 hz1 hp;clear hp;simp only[ab,ap];have HC1:=G (HC0.out.ex hz1.un);clear hz1 hbc HC0;have hbc:=HC1.out.box.cell;go_wp2_with ((go_at_call 85;refine(cz b l D _ HC1.out.bu (by omega)).mono ?_;rintro e u2 ⟨rfl,h1,h2⟩;have HC2:=G (HC1.out.wr h1 h2);clear h1 h2 HC1))
 go_end0
 exact⟨rfl,by rw[<-HS.out];have:=HC2.out.bu;exact this,HC2.out.fb⟩
theorem zK (op nm tx:List UInt8) (v:Int) (xs:List Ex) (h0:tx.length<=128) (P:Nat->Prop) (w:World) (A:Option Addr) (n c b:Nat) (l:List UInt8) (hR:bZ w P (.slice A n c) xs) (hP: ∀k,P k->k<b) (hT:dQ w b) (hB:Bu w b l) (S:List UInt8) (hS:a7 (.mk 2 op nm tx v xs)=S) (hl:l.length+S.length<=1000000000):
  Calls prog 166 #[.pointer (some ⟨b,0,none⟩), .agg #[.int .i64 2, .string (ae op), .string (ae nm), .string (ae tx), .int .i64 v, .slice A n c]] w fun e w'=>e= .returned (.tuple #[])/\Bu w' b (l++S)/\FB b w w':=by
 have HS:=G (show ie tx=S from by rw[<-hS];rfl);have hlen:(ie tx).length=S.length:=by rw[HS.out]
 clear hS;have HC0:=G (show PC b w.heap.size w P 131 #[.int .i64 2, .string (ae op), .string (ae nm), .string (ae tx), .int .i64 v, .slice A n c] (.slice A n c) xs l _ from⟨ai w 131 #[.int .i64 2, .string (ae op), .string (ae nm), .string (ae tx), .int .i64 v, .slice A n c],hB.ext (O w _),hR.keep (.of_ext (O w _)) (fun _ hb _=>hb),a6 (O w _) (aH hB.lt),hT.fb (a6 (O w _) (aH hB.lt)),bL hB.lt,by decide,hP⟩);have hbc:=HC0.out.box.cell;clear hB hR hT;have HIt:=G (fun w=>sU tx (by omega) w);generalize ie tx=D at*;go_enter func166,ntmps166;go_wp2_with fail;refine am 6 3 [(5,fun x=>x= .string (ae D),fun _ _=>True)] mixed (by kernel_rfl) ⟨fun _ _ _ _ _=>trivial,trivial⟩ ?_;repeat (refine sx ?_ (fun w1 hU=> ?_) ?_;rotate_left;(focus have f1:=(HC0.out.ex hU.un).box.cell;clear hU;go_simp<;>with_reducible rfl);simp only[bf,be,bc,a_,a8])
 refine so (fun w6 hU hp K hK=> ?_) ?_
 ·have hT6:=(HC0.out.ex hU.un).tab;clear hp hU;go_simp;refine(HIt.out w6).mono ?_;rintro e w7 ⟨rfl,hE⟩;exact hK _ _ hE rfl trivial
 rintro _ rfl;simp only[bf,be,bc,a_,a8];repeat (refine sx ?_ (fun w1 hU=> ?_) ?_;rotate_left;(focus have f1:=(HC0.out.ex hU.un).box.cell;clear hU;go_simp<;>with_reducible rfl);simp only[bf,be,bc,a_,a8])
 intro z1 hz1 hp;clear hp;simp only[ab,ap];have HC1:=G (HC0.out.ex hz1.un);clear hz1 hbc HC0;have hbc:=HC1.out.box.cell;go_wp2_with ((go_at_call 85;refine(cz b l D _ HC1.out.bu (by omega)).mono ?_;rintro e u2 ⟨rfl,h1,h2⟩;have HC2:=G (HC1.out.wr h1 h2);clear h1 h2 HC1))
 go_end0
 exact⟨rfl,by rw[<-HS.out];have:=HC2.out.bu;exact this,HC2.out.fb⟩
theorem zJ (op nm tx:List UInt8) (v:Int) (xs:List Ex) (P:Nat->Prop) (w:World) (A:Option Addr) (n c b:Nat) (l:List UInt8) (hR:bZ w P (.slice A n c) xs) (hP: ∀k,P k->k<b) (hT:dQ w b) (hB:Bu w b l) (S:List UInt8) (hS:a7 (.mk 3 op nm tx v xs)=S) (hl:l.length+S.length<=1000000000):
  Calls prog 166 #[.pointer (some ⟨b,0,none⟩), .agg #[.int .i64 3, .string (ae op), .string (ae nm), .string (ae tx), .int .i64 v, .slice A n c]] w fun e w'=>e= .returned (.tuple #[])/\Bu w' b (l++S)/\FB b w w':=by
 have HS:=G (show nm=S from by rw[<-hS];rfl);have hlen:nm.length=S.length:=by rw[HS.out]
 clear hS;have HC0:=G (show PC b w.heap.size w P 131 #[.int .i64 3, .string (ae op), .string (ae nm), .string (ae tx), .int .i64 v, .slice A n c] (.slice A n c) xs l _ from⟨ai w 131 #[.int .i64 3, .string (ae op), .string (ae nm), .string (ae tx), .int .i64 v, .slice A n c],hB.ext (O w _),hR.keep (.of_ext (O w _)) (fun _ hb _=>hb),a6 (O w _) (aH hB.lt),hT.fb (a6 (O w _) (aH hB.lt)),bL hB.lt,by decide,hP⟩);have hbc:=HC0.out.box.cell;clear hB hR hT;go_enter func166,ntmps166;go_wp2_with fail;refine am 5 3 [] mixed (by kernel_rfl) trivial ?_;repeat (refine sx ?_ (fun w1 hU=> ?_) ?_;rotate_left;(focus have f1:=(HC0.out.ex hU.un).box.cell;clear hU;go_simp<;>with_reducible rfl);simp only[bf,be,bc,a_,a8])
 intro z1 hz1 hp;clear hp;simp only[ab,ap];have HC1:=G (HC0.out.ex hz1.un);clear hz1 hbc HC0;have hbc:=HC1.out.box.cell;go_wp2_with ((go_at_call 85;refine(cz b l nm _ HC1.out.bu (by omega)).mono ?_;rintro e u2 ⟨rfl,h1,h2⟩;have HC2:=G (HC1.out.wr h1 h2);clear h1 h2 HC1))
 go_end0
 exact⟨rfl,by rw[<-HS.out];have:=HC2.out.bu;exact this,HC2.out.fb⟩
theorem zI (op nm tx:List UInt8) (v:Int) (y:Ex) (hy:l6 y) (P:Nat->Prop) (w:World) (A:Option Addr) (n c b:Nat) (l:List UInt8) (hR:bZ w P (.slice A n c) [y]) (hP: ∀k,P k->k<b) (hT:dQ w b) (hB:Bu w b l) (S:List UInt8) (hS:a7 (.mk 4 op nm tx v [y])=S) (hl:l.length+S.length<=1000000000):
  Calls prog 166 #[.pointer (some ⟨b,0,none⟩), .agg #[.int .i64 4, .string (ae op), .string (ae nm), .string (ae tx), .int .i64 v, .slice A n c]] w fun e w'=>e= .returned (.tuple #[])/\Bu w' b (l++S)/\FB b w w':=by
 have hn:=hR.len;have HX:=G hy;unfold l6 at HX;have HS:=G (show nm++[91]++a7 y++[93]=S from by rw[<-hS];rfl);have hlen:nm.length+1+(a7 y).length+1=S.length:=by rw[<-HS.out];simp only[aa,ac,af]
 clear hS hy;simp only[ac,af]at hn;obtain rfl:n=1:=hn;obtain⟨b0,o0,a0,hA0,hb0,hP0,y00,y10,y20,y30,y40,y50,hRy0⟩:=hR.at_ 0 (by simp);simp only[aL,aP,bl,bp,ca]at y00 y10 y20 y30 y40 y50 hRy0;obtain⟨B0,d0,rfl,_⟩:=hRy0.form;have HY0:=G (aq y00 (aq y10 (aq y20 (aq y30 (aq y40 y50)))));have HRy0:=G hRy0;clear y00 y10 y20 y30 y40 y50 hRy0;have HC0:=G (show PC b w.heap.size w P 131 #[.int .i64 4, .string (ae op), .string (ae nm), .string (ae tx), .int .i64 v, .slice A 1 c] (.slice A 1 c) [y] l _ from⟨ai w 131 #[.int .i64 4, .string (ae op), .string (ae nm), .string (ae tx), .int .i64 v, .slice A 1 c],hB.ext (O w _),hR.keep (.of_ext (O w _)) (fun _ hb _=>hb),a6 (O w _) (aH hB.lt),hT.fb (a6 (O w _) (aH hB.lt)),bL hB.lt,by decide,hP⟩);have hbc:=HC0.out.box.cell;clear hB hR hT;obtain⟨c1,Hc1⟩: ∃c,Hid (nm++[91]=c):=⟨_,G rfl⟩
 have hzc1:c1.length=nm.length+1:=by rw[<-Hc1.out,aa];rfl
 have hsc1:ae nm++(⟨#[91]⟩:ByteArray)=ae c1:=by rw[<-Hc1.out];exact cu _ _
 have hmc1: ¬9223372036854775807<nm.length+1:=by omega
 have hkc1: ¬9223372036854775807<1+nm.length:=by omega
 have hqc1nm:(ae nm).size=nm.length:=aM _;have hqc1l:((⟨#[91]⟩:ByteArray)).size=1:=rfl;subst hA0;generalize a7 y=Sy at*;go_enter func166,ntmps166;go_wp2_with fail;refine am 6 3 [] mixed (by kernel_rfl) trivial ?_;repeat (refine sx ?_ (fun w1 hU=> ?_) ?_;rotate_left;(focus have f1:=(HC0.out.ex hU.un).box.cell;clear hU;go_simp<;>with_reducible rfl);simp only[bf,be,bc,a_,a8])
 intro z1 hz1 hp;clear hp;simp only[ab,ap];have HC1:=G (HC0.out.ex hz1.un);clear hz1 hbc HC0;have hbc:=HC1.out.box.cell;go_wp2_with (first|(go_at_call 85;refine(cz b l c1 _ HC1.out.bu (by omega)).mono ?_;rintro e u2 ⟨rfl,h1,h2⟩;have HC2:=G (HC1.out.wr h1 h2);clear h1 h2 HC1;clear hbc;have hbc:=HC2.out.box.cell;have e0:=(HC2.out.fb.keepP hP).cell (o0) hP0 hb0|>.trans HY0.out.1;have e1:=(HC2.out.fb.keepP hP).cell (o0+1) hP0 hb0|>.trans HY0.out.2.1;have e2:=(HC2.out.fb.keepP hP).cell (o0+2) hP0 hb0|>.trans HY0.out.2.2.1;have e3:=(HC2.out.fb.keepP hP).cell (o0+3) hP0 hb0|>.trans HY0.out.2.2.2.1;have e4:=(HC2.out.fb.keepP hP).cell (o0+4) hP0 hb0|>.trans HY0.out.2.2.2.2.1;have e5:=(HC2.out.fb.keepP hP).cell (o0+5) hP0 hb0|>.trans HY0.out.2.2.2.2.2)|(go_at_call 166;refine(HX.out P _ B0 _ d0 b (l++c1) (HRy0.out.keep (HC2.out.fb.keepP hP) (fun _ hb _=>hb)) hP HC2.out.tab HC2.out.bu (by simp only[aa];omega)).mono ?_;rintro e u3 ⟨rfl,h1,h2⟩;have HC3:=G (HC2.out.wr h1 h2);clear h1 h2 HC2;clear e0 e1 e2 e3 e4 e5)|(go_at_call 85;refine(cz b (l++c1++Sy) [93] _ HC3.out.bu (by simp only[aa,ac,af];omega)).mono ?_;rintro e u4 ⟨rfl,h1,h2⟩;have HC4:=G (HC3.out.wr h1 h2);clear h1 h2 HC3))
 go_end0
 exact⟨rfl,by rw[<-HS.out];have:=HC4.out.bu;rw[<-Hc1.out]at this;simpa[az]using this,HC4.out.fb⟩
theorem zH (op nm tx:List UInt8) (v:Int) (xs:List Ex) (hx: ∀y,y∈xs->l6 y) (h4:xs.length<=4) (P:Nat->Prop) (w:World) (A:Option Addr) (n c b:Nat) (l:List UInt8) (hR:bZ w P (.slice A n c) xs) (hP: ∀k,P k->k<b) (hT:dQ w b) (hB:Bu w b l) (S:List UInt8) (hS:a7 (.mk 5 op nm tx v xs)=S) (hl:l.length+S.length<=1000000000):
  Calls prog 166 #[.pointer (some ⟨b,0,none⟩), .agg #[.int .i64 5, .string (ae op), .string (ae nm), .string (ae tx), .int .i64 v, .slice A n c]] w fun e w'=>e= .returned (.tuple #[])/\Bu w' b (l++S)/\FB b w w':=by
 have hn:=hR.len;have HX:=G hx;have HS:=G (show nm++[40]++cj [44,32] (c8 xs)++[41]=S from by rw[<-hS];rfl);have hlen:nm.length+1+(cj [44,32] (c8 xs)).length+1=S.length:=by rw[<-HS.out];simp only[aa,ac,af]
 have HN:=G hn;have hn4:(n:Int)<=4:=by omega
 clear hS hx hn;have HC0:=G (show PC b w.heap.size w P 131 #[.int .i64 5, .string (ae op), .string (ae nm), .string (ae tx), .int .i64 v, .slice A n c] (.slice A n c) xs l _ from⟨ai w 131 #[.int .i64 5, .string (ae op), .string (ae nm), .string (ae tx), .int .i64 v, .slice A n c],hB.ext (O w _),hR.keep (.of_ext (O w _)) (fun _ hb _=>hb),a6 (O w _) (aH hB.lt),hT.fb (a6 (O w _) (aH hB.lt)),bL hB.lt,by decide,hP⟩);have hbc:=HC0.out.box.cell;clear hB hR hT;obtain⟨c1,Hc1⟩: ∃c,Hid (nm++[40]=c):=⟨_,G rfl⟩
 have hzc1:c1.length=nm.length+1:=by rw[<-Hc1.out,aa];rfl
 have hsc1:ae nm++(⟨#[40]⟩:ByteArray)=ae c1:=by rw[<-Hc1.out];exact cu _ _
 have hmc1: ¬9223372036854775807<nm.length+1:=by omega
 have hkc1: ¬9223372036854775807<1+nm.length:=by omega
 have hqc1nm:(ae nm).size=nm.length:=aM _;have hqc1l:((⟨#[40]⟩:ByteArray)).size=1:=rfl;go_enter func166,ntmps166;go_wp2_with fail;refine am 6 3 [] mixed (by kernel_rfl) trivial ?_;repeat (refine sx ?_ (fun w1 hU=> ?_) ?_;rotate_left;(focus have f1:=(HC0.out.ex hU.un).box.cell;clear hU;go_simp<;>with_reducible rfl);simp only[bf,be,bc,a_,a8])
 intro z1 hz1 hp;clear hp;simp only[ab,ap];have HC1:=G (HC0.out.ex hz1.un);clear hz1 hbc HC0;have hbc:=HC1.out.box.cell;go_wp2_with ((go_at_call 85;refine(cz b l c1 _ HC1.out.bu (by omega)).mono ?_;rintro e u2 ⟨rfl,h1,h2⟩;have HC2:=G (HC1.out.wr h1 h2);clear h1 h2 HC1;clear hbc;have hbc:=HC2.out.box.cell));clear hbc
 go_loopw [66] (fun vi wr=> ∃j:Nat,vi= .int .i64 (j:Int)/\j<=n/\Hid (PC b w.heap.size w P 131 #[.int .i64 5, .string (ae op), .string (ae nm), .string (ae tx), .int .i64 v, .slice A n c] (.slice A n c) xs (l++c1++cj [44,32] ((c8 xs).take j)) wr)) (fun vi _=>n-(intOf vi).toNat)
 case atStart=>exact⟨0,rfl,aB _,by simpa[cj]using HC2⟩
 case round=>
  clear HC2;obtain⟨j,rfl,hj,HCr⟩:=hrel;by_cases hlt:j<n
  ·have hlt':(j:Int)<n:=by omega
   have hjl:j<xs.length:=by have:=HN.out;omega
   obtain⟨bj,oj,aj,rfl,hbj,hPj,e0,e1,e2,e3,e4,e5,hRy⟩:=HCr.out.rd.at_ j hjl;have HXy:=G (HX.out _ (aE hjl));have hsl:(c8 xs).length=xs.length:=by rw[gz];simp
   have hsj:(c8 xs)[j]'(by omega)=a7 xs[j]:=by simp[gz]
   have HT:=G (show cj [44,32] ((c8 xs).take (j+1))=cj [44,32] ((c8 xs).take j)++((if(c8 xs).take j=[]then[]else[44,32])++a7 xs[j])from by rw[aF (by omega),kE,hsj]);have hbd:(cj [44,32] ((c8 xs).take (j+1))).length<=(cj [44,32] (c8 xs)).length:=by
    have:c8 xs=(c8 xs).take (j+1)++(c8 xs).drop (j+1):=(bN _ _).symm
    conv=>rhs;rw[this]
    cases h:(c8 xs).take (j+1)with
    |nil=>simp[cj]
    |cons a r=>simp[cj]
   have hte:((c8 xs).take j=[])↔j=0:=by
    rw[gt];constructor
    ·rintro(h|h)
     ·exact h
     ·rw[h]at hsl;simp at hsl;omega
    ·exact fun h=> .inl h
   generalize xs[j]=y at*;unfold l6 at HXy;obtain⟨By,dy,rfl,_⟩:=hRy.form;have HRy:=G hRy;have hey:y.args.length=y.args.length:=rfl;have hsz:=HCr.out.bu.lt;have HC1:=G (HCr.out.ex (O _ (.cells #[.int .i64 y.k, .string (ae y.op), .string (ae y.nm), .string (ae y.tx), .int .i64 y.v, .slice By y.args.length dy] 131)));have HYB:=G (ai wr 131 #[.int .i64 y.k, .string (ae y.op), .string (ae y.nm), .string (ae y.tx), .int .i64 y.v, .slice By y.args.length dy]);have hpy:wr.heap.size≠b:=by omega
   have HRz:=G (hRy.keep (.of_ext (O wr (.cells #[.int .i64 y.k, .string (ae y.op), .string (ae y.nm), .string (ae y.tx), .int .i64 y.v, .slice By y.args.length dy] 131))) (fun _ hb _=>hb));generalize cj [44,32] ((c8 xs).take j)=J at*;generalize hJ1:cj [44,32] ((c8 xs).take (j+1))=J1 at*;have hJl:=congrArg List.length HT.out;simp only[aa]at hJl;generalize a7 y=Sy at*;clear hRy hsl hsj HRy hey;by_cases hj0:j=0
   ·subst hj0;simp only[bl,bp]at e0 e1 e2 e3 e4 e5;rw[if_pos (hte.2 rfl)]at HT hJl;simp only[af]at hJl;clear hte;go_wp2_with (go_at_call 166;refine(HXy.out P _ By _ dy b (l++c1++J) HRz.out hP HC1.out.tab HC1.out.bu (by simp only[aa];omega)).mono ?_;rintro e u3 ⟨rfl,h1,h2⟩;have HC3:=G (HC1.out.wr h1 h2);clear h1 h2 HC1);go_roundw
    case rel=>exact⟨1,rfl,by omega,by have:=HT.out;rw[show cj [44,32] (List.take 1 (c8 xs))=J1 from hJ1,this];simpa[az]using HC3⟩
    case measure=>simp[intOf];omega
   ·have hj1:(0:Int)<j:=by omega
    have hj2:0<j:=by omega
    rw[if_neg (fun h=>hj0 (hte.1 h))]at HT hJl;simp only[ac,af]at hJl;clear hte;have hyc:=HYB.out.cell;go_wp2_with (first|(go_at_call 85;refine(cz b (l++c1++J) [44,32] _ HC1.out.bu (by simp only[aa,ac,af];omega)).mono ?_;rintro e u2 ⟨rfl,h1,h2⟩;have HC2:=G (HC1.out.wr h1 h2);have HYB2:=G (h2.keep _ _ _ hpy (by decide) HYB.out);have hyc2:=HYB2.out.cell;have HRw:=G (HRz.out.keep (h2.keepP hP) (fun _ hb _=>hb));clear h1 h2 HC1;clear hyc)|(go_at_call 166;refine(HXy.out P _ By _ dy b (l++c1++J++[44,32]) HRw.out hP HC2.out.tab HC2.out.bu (by simp only[aa,ac,af];omega)).mono ?_;rintro e u3 ⟨rfl,h1,h2⟩;have HC3:=G (HC2.out.wr h1 h2);clear h1 h2 HC2));go_roundw
    case rel=>exact⟨j+1,by go_num,by omega,by have:=HT.out;rw[hJ1,this];simpa[az]using HC3⟩
    case measure=>simp[intOf];omega
  ·have hlt': ¬(j:Int)<n:=by omega
   have hjn:j=n:=by omega
   have HQ:=G (show(c8 xs).take j=c8 xs from by rw[hjn,HN.out,aK (by rw[gz];simp)]);rw[HQ.out]at HCr;generalize cj [44,32] (c8 xs)=J at*;clear HQ;go_wp2_with ((go_at_call 85;refine(cz b (l++c1++J) [41] _ HCr.out.bu (by simp only[aa,ac,af];omega)).mono ?_;rintro e ue ⟨rfl,h1,h2⟩;have HCe:=G (HCr.out.wr h1 h2);clear h1 h2 HCr))
   go_end0
   exact⟨rfl,by rw[<-HS.out];have:=HCe.out.bu;rw[<-Hc1.out]at this;simpa[az]using this,HCe.out.fb⟩
theorem zG (op nm tx:List UInt8) (v:Int) (y:Ex) (hy:l6 y) (P:Nat->Prop) (w:World) (A:Option Addr) (n c b:Nat) (l:List UInt8) (hR:bZ w P (.slice A n c) [y]) (hP: ∀k,P k->k<b) (hT:dQ w b) (hB:Bu w b l) (S:List UInt8) (hS:a7 (.mk 6 op nm tx v [y])=S) (hl:l.length+S.length<=1000000000):
  Calls prog 166 #[.pointer (some ⟨b,0,none⟩), .agg #[.int .i64 6, .string (ae op), .string (ae nm), .string (ae tx), .int .i64 v, .slice A n c]] w fun e w'=>e= .returned (.tuple #[])/\Bu w' b (l++S)/\FB b w w':=by
 have hn:=hR.len;have HS:=G (show op++iF (decide (y.prec<7)) (a7 y)=S from by rw[<-hS];rfl);have hpl:=ml (decide (y.prec<7)) (a7 y);have hlen:op.length+(iF (decide (y.prec<7)) (a7 y)).length=S.length:=by rw[<-HS.out];simp only[aa]
 have hpg:(a7 y).length<=(iF (decide (y.prec<7)) (a7 y)).length:=by unfold iF;split<;>simp<;>omega
 clear hS;simp only[ac,af]at hn;obtain rfl:n=1:=hn;obtain⟨b0,o0,a0,hA0,hb0,hP0,y00,y10,y20,y30,y40,y50,hRy0⟩:=hR.at_ 0 (by simp);simp only[aL,aP,bl,bp,ca]at y00 y10 y20 y30 y40 y50 hRy0;obtain⟨B0,d0,rfl,_⟩:=hRy0.form;have HY0:=G (aq y00 (aq y10 (aq y20 (aq y30 (aq y40 y50)))));have HRy0:=G hRy0;clear y00 y10 y20 y30 y40 y50 hRy0;subst hA0;have HC0:=G (show PC b w.heap.size w P 131 #[.int .i64 6, .string (ae op), .string (ae nm), .string (ae tx), .int .i64 v, .slice (some ⟨b0,o0,none⟩) 1 c] (.slice (some ⟨b0,o0,none⟩) 1 c) [y] l _ from⟨ai w 131 #[.int .i64 6, .string (ae op), .string (ae nm), .string (ae tx), .int .i64 v, .slice (some ⟨b0,o0,none⟩) 1 c],hB.ext (O w _),hR.keep (.of_ext (O w _)) (fun _ hb _=>hb),a6 (O w _) (aH hB.lt),hT.fb (a6 (O w _) (aH hB.lt)),bL hB.lt,by decide,hP⟩);have hbc:=HC0.out.box.cell;clear hB hR hT;have HPR0:=G (fun w=>kT y w (.slice B0 y.args.length d0) ⟨_,_,_,rfl⟩);have HO0:=G (oW y hy);generalize y.prec=p0 at*;generalize a7 y=Sy at*;clear hy;go_enter func166,ntmps166;go_wp2_with fail;refine am 5 3 [] mixed (by kernel_rfl) trivial ?_;repeat (refine sx ?_ (fun w1 hU=> ?_) ?_;rotate_left;(focus have f1:=(HC0.out.ex hU.un).box.cell;clear hU;go_simp<;>with_reducible rfl);simp only[bf,be,bc,a_,a8])
 intro z1 hz1 hp;clear hp;simp only[ab,ap];have HC1:=G (HC0.out.ex hz1.un);clear hz1 hbc HC0;have hbc:=HC1.out.box.cell;go_wp2_with ((go_at_call 85;refine(cz b l op _ HC1.out.bu (by omega)).mono ?_;rintro e u2 ⟨rfl,h1,h2⟩;have HC2:=G (HC1.out.wr h1 h2);clear h1 h2 HC1;clear hbc;have hbc:=HC2.out.box.cell));have hbw2:=aH HC2.out.bu.lt;clear hbc;refine gR b 12 8 [(9,fun x=>x= .int .i64 p0,fun _ _=>True),(11,fun x=>x= .tuple #[],fun _ wx=>Bu wx b (l++op++iF (decide (p0<7)) Sy))] 11 mixed (by kernel_rfl) hbw2 ⟨fun _ _ _ _ _=>trivial,fun _ _ _ h hx=>h.ext hx,trivial⟩ ⟨.inr fun _ _ _ _ _=>trivial, .inl rfl,trivial⟩ ?_;repeat (refine sx ?_ (fun w1 hU=> ?_) ?_;rotate_left;(focus have hF:=k_ (hU hbw2);have f1:=(hF.keep _ _ _ HC2.out.ne HC2.out.tt HC2.out.box).cell;have hK:=dP (HC2.out.fb.keepP hP) (hF.keepP hP);have e0:=(hK.cell (o0) hP0 hb0).trans HY0.out.1;have e1:=(hK.cell (o0+1) hP0 hb0).trans HY0.out.2.1;have e2:=(hK.cell (o0+2) hP0 hb0).trans HY0.out.2.2.1;have e3:=(hK.cell (o0+3) hP0 hb0).trans HY0.out.2.2.2.1;have e4:=(hK.cell (o0+4) hP0 hb0).trans HY0.out.2.2.2.2.1;have e5:=(hK.cell (o0+5) hP0 hb0).trans HY0.out.2.2.2.2.2;clear hF hK hU;go_simp<;>with_reducible rfl);simp only[bf,be,bc,a_,a8])
 refine so (fun w6 hU hp K hK=> ?_) ?_
 ·clear hp hU;go_simp;refine(HPR0.out w6).mono ?_;rintro e w7 ⟨rfl,hE⟩;exact hK _ _ hE rfl trivial
 rintro _ rfl;simp only[bf,be,bc,a_,a8];repeat (refine sx ?_ (fun w1 hU=> ?_) ?_;rotate_left;(focus have hF:=k_ (hU hbw2);have f1:=(hF.keep _ _ _ HC2.out.ne HC2.out.tt HC2.out.box).cell;have hK:=dP (HC2.out.fb.keepP hP) (hF.keepP hP);have e0:=(hK.cell (o0) hP0 hb0).trans HY0.out.1;have e1:=(hK.cell (o0+1) hP0 hb0).trans HY0.out.2.1;have e2:=(hK.cell (o0+2) hP0 hb0).trans HY0.out.2.2.1;have e3:=(hK.cell (o0+3) hP0 hb0).trans HY0.out.2.2.2.1;have e4:=(hK.cell (o0+4) hP0 hb0).trans HY0.out.2.2.2.2.1;have e5:=(hK.cell (o0+5) hP0 hb0).trans HY0.out.2.2.2.2.2;clear hF hK hU;go_simp<;>with_reducible rfl);simp only[bf,be,bc,a_,a8])
 refine ce _ _ (by rfl) rfl ⟨_,rfl⟩ rfl (fun w6 hT hp K hK=> ?_) ?_
 ·have HC6:=G (HC2.out.ex hT.un);have hR6:=HRy0.out.keep (dP (HC2.out.fb.keepP hP) (.of_ext hT.un)) (fun _ hb _=>hb);have HR6:=G hR6;clear hp hT hR6;go_simp;refine(HO0.out (decide (p0<7)) P w6 B0 _ d0 b (l++op) HR6.out hP HC6.out.tab HC6.out.bu (by first|omega|(simp only[aa,ac,af];omega))).mono ?_;rintro e w7 ⟨rfl,h1,h2⟩;exact hK _ _ (fun _=>h2) rfl h1
 rintro _ rfl;simp only[bf,be,bc,a_,a8];intro v3 hv hp;have HC3:=G (HC2.out.wr (hp _ (.head _)) hv);clear hv hp;simp only[ab,aC];have hbc:=HC3.out.box.cell;go_wp2_with fail
 go_end0
 exact⟨rfl,by rw[<-HS.out];have:=HC3.out.bu;simpa[az]using this,HC3.out.fb⟩
theorem zF (op nm tx:List UInt8) (v:Int) (y z:Ex) (hy:l6 y) (hz:l6 z) (P:Nat->Prop) (w:World) (A:Option Addr) (n c b:Nat) (l:List UInt8) (hR:bZ w P (.slice A n c) [y,z]) (hP: ∀k,P k->k<b) (hT:dQ w b) (hB:Bu w b l) (S:List UInt8) (hS:a7 (.mk 7 op nm tx v [y,z])=S) (hl:l.length+S.length<=1000000000):
  Calls prog 166 #[.pointer (some ⟨b,0,none⟩), .agg #[.int .i64 7, .string (ae op), .string (ae nm), .string (ae tx), .int .i64 v, .slice A n c]] w fun e w'=>e= .returned (.tuple #[])/\Bu w' b (l++S)/\FB b w w':=by
 have hn:=hR.len;have HS:=G (show iF (decide (y.prec<eW op)) (a7 y)++([32]++op++[32])++iF (decide (z.prec<=eW op)) (a7 z)=S from by rw[<-hS];rfl);have hlen:(iF (decide (y.prec<eW op)) (a7 y)).length+(1+op.length+1)+(iF (decide (z.prec<=eW op)) (a7 z)).length=S.length:=by rw[<-HS.out];simp only[aa,ac,af]
 have hpg:(a7 y).length<=(iF (decide (y.prec<eW op)) (a7 y)).length:=by unfold iF;split<;>simp<;>omega
 have hph:(a7 z).length<=(iF (decide (z.prec<=eW op)) (a7 z)).length:=by unfold iF;split<;>simp<;>omega
 clear hS;simp only[ac,af]at hn;obtain rfl:n=2:=hn;obtain⟨b0,o0,a0,hA0,hb0,hP0,y00,y10,y20,y30,y40,y50,hRy0⟩:=hR.at_ 0 (by simp);simp only[aL,aP,bl,bp,ca]at y00 y10 y20 y30 y40 y50 hRy0;obtain⟨B0,d0,rfl,_⟩:=hRy0.form;subst hA0;obtain⟨b1,o1,a1,hA1,hb1,hP1,y01,y11,y21,y31,y41,y51,hRy1⟩:=hR.at_ 1 (by simp);simp only[aL,aP,bl,bp,ca]at y01 y11 y21 y31 y41 y51 hRy1;obtain⟨B1,d1,rfl,_⟩:=hRy1.form;injection hA1 with hA1;injection hA1 with hA1 hA2;subst hA1 hA2;have HY0:=G (aq y00 (aq y10 (aq y20 (aq y30 (aq y40 y50)))));have HRy0:=G hRy0;clear y00 y10 y20 y30 y40 y50 hRy0;have HY1:=G (aq y01 (aq y11 (aq y21 (aq y31 (aq y41 y51)))));have HRy1:=G hRy1;clear y01 y11 y21 y31 y41 y51 hRy1;have HC0:=G (show PC b w.heap.size w P 131 #[.int .i64 7, .string (ae op), .string (ae nm), .string (ae tx), .int .i64 v, .slice (some ⟨b0,o0,none⟩) 2 c] (.slice (some ⟨b0,o0,none⟩) 2 c) [y,z] l _ from⟨ai w 131 #[.int .i64 7, .string (ae op), .string (ae nm), .string (ae tx), .int .i64 v, .slice (some ⟨b0,o0,none⟩) 2 c],hB.ext (O w _),hR.keep (.of_ext (O w _)) (fun _ hb _=>hb),a6 (O w _) (aH hB.lt),hT.fb (a6 (O w _) (aH hB.lt)),bL hB.lt,by decide,hP⟩);have hbc:=HC0.out.box.cell;clear hB hR hT;have HPR0:=G (fun w=>kT y w (.slice B0 y.args.length d0) ⟨_,_,_,rfl⟩);have HO0:=G (oW y hy);have HPR1:=G (fun w=>kT z w (.slice B1 z.args.length d1) ⟨_,_,_,rfl⟩);have HO1:=G (oW z hz);generalize y.prec=p0 at*;generalize z.prec=p1 at*;obtain⟨c1,Hc1⟩: ∃c,Hid ([32]++op=c):=⟨_,G rfl⟩
 have hzc1:c1.length=1+op.length:=by rw[<-Hc1.out,aa];rfl
 have hsc1:(⟨#[32]⟩:ByteArray)++ae op=ae c1:=by rw[<-Hc1.out];exact cu _ _
 have hmc1: ¬9223372036854775807<1+op.length:=by omega
 have hkc1: ¬9223372036854775807<op.length+1:=by omega
 have hqc1l:((⟨#[32]⟩:ByteArray)).size=1:=rfl;have hqc1op:(ae op).size=op.length:=aM _;obtain⟨c2,Hc2⟩: ∃c,Hid (c1++[32]=c):=⟨_,G rfl⟩
 have hzc2:c2.length=c1.length+1:=by rw[<-Hc2.out,aa];rfl
 have hsc2:ae c1++(⟨#[32]⟩:ByteArray)=ae c2:=by rw[<-Hc2.out];exact cu _ _
 have hmc2: ¬9223372036854775807<c1.length+1:=by omega
 have hkc2: ¬9223372036854775807<1+c1.length:=by omega
 have hqc2c1:(ae c1).size=c1.length:=aM _;have hqc2l:((⟨#[32]⟩:ByteArray)).size=1:=rfl;have Hz1:=G hzc1;have Hz2:=G hzc2;clear hzc1 hzc2;have HPS:=G (fun w=>kT (.mk 7 op nm tx v [y,z]) w (.slice (some ⟨b0,o0,none⟩) 2 c) ⟨_,_,_,rfl⟩);have hps:Ex.prec (.mk 7 op nm tx v [y,z])=eW op:=rfl;rw[hps]at HPS;simp only[Ex.k,Ex.op,Ex.nm,Ex.tx,Ex.v]at HPS;generalize eW op=L at*;generalize a7 y=Sy at*;generalize a7 z=Sz at*;clear hy hz hps;go_enter func166,ntmps166;go_wp2_with (go_at_call 181;refine(HPS.out _).mono ?_;rintro e u1 ⟨rfl,hE⟩;have HC1:=G (HC0.out.ex hE);clear hE hbc HC0;have hbc:=HC1.out.box.cell);have hbw1:=aH HC1.out.bu.lt;clear hbc;refine gR b 13 8 [(9,fun x=>x= .int .i64 p0,fun _ _=>True),(12,fun x=>x= .tuple #[],fun _ wx=>Bu wx b (l++iF (decide (p0<L)) Sy))] 12 mixed (by kernel_rfl) hbw1 ⟨fun _ _ _ _ _=>trivial,fun _ _ _ h hx=>h.ext hx,trivial⟩ ⟨.inr fun _ _ _ _ _=>trivial, .inl rfl,trivial⟩ ?_;repeat (refine sx ?_ (fun w1 hU=> ?_) ?_;rotate_left;(focus have hF:=k_ (hU hbw1);have f1:=(hF.keep _ _ _ HC1.out.ne HC1.out.tt HC1.out.box).cell;have hK:=dP (HC1.out.fb.keepP hP) (hF.keepP hP);have e0:=(hK.cell (o0) hP0 hb0).trans HY0.out.1;have e1:=(hK.cell (o0+1) hP0 hb0).trans HY0.out.2.1;have e2:=(hK.cell (o0+2) hP0 hb0).trans HY0.out.2.2.1;have e3:=(hK.cell (o0+3) hP0 hb0).trans HY0.out.2.2.2.1;have e4:=(hK.cell (o0+4) hP0 hb0).trans HY0.out.2.2.2.2.1;have e5:=(hK.cell (o0+5) hP0 hb0).trans HY0.out.2.2.2.2.2;clear hF hK hU;go_simp<;>with_reducible rfl);simp only[bf,be,bc,a_,a8])
 refine so (fun w6 hU hp K hK=> ?_) ?_
 ·clear hp hU;go_simp;refine(HPR0.out w6).mono ?_;rintro e w7 ⟨rfl,hE⟩;exact hK _ _ hE rfl trivial
 rintro _ rfl;simp only[bf,be,bc,a_,a8];repeat (refine sx ?_ (fun w1 hU=> ?_) ?_;rotate_left;(focus have hF:=k_ (hU hbw1);have f1:=(hF.keep _ _ _ HC1.out.ne HC1.out.tt HC1.out.box).cell;have hK:=dP (HC1.out.fb.keepP hP) (hF.keepP hP);have e0:=(hK.cell (o0) hP0 hb0).trans HY0.out.1;have e1:=(hK.cell (o0+1) hP0 hb0).trans HY0.out.2.1;have e2:=(hK.cell (o0+2) hP0 hb0).trans HY0.out.2.2.1;have e3:=(hK.cell (o0+3) hP0 hb0).trans HY0.out.2.2.2.1;have e4:=(hK.cell (o0+4) hP0 hb0).trans HY0.out.2.2.2.2.1;have e5:=(hK.cell (o0+5) hP0 hb0).trans HY0.out.2.2.2.2.2;clear hF hK hU;go_simp<;>with_reducible rfl);simp only[bf,be,bc,a_,a8])
 refine ce _ _ (by rfl) rfl ⟨_,rfl⟩ rfl (fun w6 hT hp K hK=> ?_) ?_
 ·have HC6:=G (HC1.out.ex hT.un);have hR6:=HRy0.out.keep (dP (HC1.out.fb.keepP hP) (.of_ext hT.un)) (fun _ hb _=>hb);have HR6:=G hR6;clear hp hT hR6;go_simp;refine(HO0.out (decide (p0<L)) P w6 B0 _ d0 b (l) HR6.out hP HC6.out.tab HC6.out.bu (by first|omega|(simp only[aa,ac,af];omega))).mono ?_;rintro e w7 ⟨rfl,h1,h2⟩;exact hK _ _ (fun _=>h2) rfl h1
 rintro _ rfl;simp only[bf,be,bc,a_,a8];intro v2 hv hp;have HC2:=G (HC1.out.wr (hp _ (.head _)) hv);clear hv hp;simp only[ab,aC];have hbc:=HC2.out.box.cell;go_wp2_with fail;generalize hq1:iF (decide (p0<L)) Sy=Q1 at*;refine am 7 3 [] mixed (by kernel_rfl) trivial ?_;repeat (refine sx ?_ (fun w1 hU=> ?_) ?_;rotate_left;(focus have f1:=(HC2.out.ex hU.un).box.cell;clear hU;go_simp<;>with_reducible rfl);simp only[bf,be,bc,a_,a8])
 intro z3 hz3 hp;clear hp;simp only[ab,ap];have HC3:=G (HC2.out.ex hz3.un);clear hz3 hbc HC2;have hbc:=HC3.out.box.cell;go_wp2_with ((go_at_call 85;refine(cz b (l++Q1) c2 _ HC3.out.bu (by have a1:=Hz1.out;have a2:=Hz2.out;simp only[aa];omega)).mono ?_;rintro e u4 ⟨rfl,h1,h2⟩;have HC4:=G (HC3.out.wr h1 h2);clear h1 h2 HC3;clear hbc;have hbc:=HC4.out.box.cell));have a1:l.length+Q1.length+c2.length+(iF (decide (p1<=L)) Sz).length<=1000000000:=by have a1:=Hz1.out;have a2:=Hz2.out;omega
 clear hsc1 hsc2 hmc1 hmc2 hkc1 hkc2 hqc1l hqc1op hqc2c1 hqc2l hlen hl hpg hph;have hbw4:=aH HC4.out.bu.lt;clear hbc;refine gR b 13 8 [(9,fun x=>x= .int .i64 p1,fun _ _=>True),(12,fun x=>x= .tuple #[],fun _ wx=>Bu wx b (l++Q1++c2++iF (decide (p1<=L)) Sz))] 12 mixed (by kernel_rfl) hbw4 ⟨fun _ _ _ _ _=>trivial,fun _ _ _ h hx=>h.ext hx,trivial⟩ ⟨.inr fun _ _ _ _ _=>trivial, .inl rfl,trivial⟩ ?_;repeat (refine sx ?_ (fun w1 hU=> ?_) ?_;rotate_left;(focus have hF:=k_ (hU hbw4);have f1:=(hF.keep _ _ _ HC4.out.ne HC4.out.tt HC4.out.box).cell;have hK:=dP (HC4.out.fb.keepP hP) (hF.keepP hP);have e0:=(hK.cell (o0+6) hP1 hb1).trans HY1.out.1;have e1:=(hK.cell (o0+6+1) hP1 hb1).trans HY1.out.2.1;have e2:=(hK.cell (o0+6+2) hP1 hb1).trans HY1.out.2.2.1;have e3:=(hK.cell (o0+6+3) hP1 hb1).trans HY1.out.2.2.2.1;have e4:=(hK.cell (o0+6+4) hP1 hb1).trans HY1.out.2.2.2.2.1;have e5:=(hK.cell (o0+6+5) hP1 hb1).trans HY1.out.2.2.2.2.2;clear hF hK hU;go_simp<;>with_reducible rfl);simp only[bf,be,bc,a_,a8])
 refine so (fun w6 hU hp K hK=> ?_) ?_
 ·clear hp hU;go_simp;refine(HPR1.out w6).mono ?_;rintro e w7 ⟨rfl,hE⟩;exact hK _ _ hE rfl trivial
 rintro _ rfl;simp only[bf,be,bc,a_,a8];repeat (refine sx ?_ (fun w1 hU=> ?_) ?_;rotate_left;(focus have hF:=k_ (hU hbw4);have f1:=(hF.keep _ _ _ HC4.out.ne HC4.out.tt HC4.out.box).cell;have hK:=dP (HC4.out.fb.keepP hP) (hF.keepP hP);have e0:=(hK.cell (o0+6) hP1 hb1).trans HY1.out.1;have e1:=(hK.cell (o0+6+1) hP1 hb1).trans HY1.out.2.1;have e2:=(hK.cell (o0+6+2) hP1 hb1).trans HY1.out.2.2.1;have e3:=(hK.cell (o0+6+3) hP1 hb1).trans HY1.out.2.2.2.1;have e4:=(hK.cell (o0+6+4) hP1 hb1).trans HY1.out.2.2.2.2.1;have e5:=(hK.cell (o0+6+5) hP1 hb1).trans HY1.out.2.2.2.2.2;clear hF hK hU;go_simp<;>with_reducible rfl);simp only[bf,be,bc,a_,a8])
 refine ce _ _ (by rfl) rfl ⟨_,rfl⟩ rfl (fun w6 hT hp K hK=> ?_) ?_
 ·have HC6:=G (HC4.out.ex hT.un);have hR6:=HRy1.out.keep (dP (HC4.out.fb.keepP hP) (.of_ext hT.un)) (fun _ hb _=>hb);have HR6:=G hR6;clear hp hT hR6;go_simp;refine(HO1.out (decide (p1<=L)) P w6 B1 _ d1 b (l++Q1++c2) HR6.out hP HC6.out.tab HC6.out.bu (by first|omega|(simp only[aa,ac,af];omega))).mono ?_;rintro e w7 ⟨rfl,h1,h2⟩;exact hK _ _ (fun _=>h2) rfl h1
 rintro _ rfl;simp only[bf,be,bc,a_,a8];intro v5 hv hp;have HC5:=G (HC4.out.wr (hp _ (.head _)) hv);clear hv hp;simp only[ab,aC];have hbc:=HC5.out.box.cell;go_wp2_with fail
 go_end0
 exact⟨rfl,by rw[<-HS.out];have:=HC5.out.bu;rw[<-Hc2.out,<-Hc1.out]at this;simpa[az]using this,HC5.out.fb⟩
end
section
open Go.RowKit
theorem rX: ∀(m:Nat) (x:Ex),x.wt<=m->x.ok=true->l6 x
 |0,x,hm,_=>absurd hm (by have:=x.wt_eq;omega)
 |m+1, .mk k op nm tx v a,hm,h=>by
  have hw:=(Ex.mk k op nm tx v a).wt_eq;simp only[Ex.op,Ex.nm,Ex.tx,Ex.args]at hw;rw[Ex.ok,au]at h;obtain⟨h1,h2⟩:=h;rw[iH]at h2;have ih: ∀y,y∈a->l6 y:=fun y hy=>rX m y (by have:=ei hy;omega) (List.all_eq_true.1 h2 y hy);intro P w A n c b l hR hP hT hB hl;simp only[Ex.k,Ex.op,Ex.nm,Ex.tx,Ex.v,Ex.args]at*;by_cases k1:k=1
  ·subst k1;rw[if_pos rfl]at h1;simp only[au,decide_eq_true_eq]at h1;exact zL op nm tx v a h1.1.1.1 h1.1.1.2 P w A n c b l hR hP hT hB _ rfl hl
  rw[if_neg k1]at h1;by_cases k2:k=2
  ·subst k2;rw[if_pos rfl]at h1;simp only[au,kA,decide_eq_true_eq]at h1;exact zK op nm tx v a h1.1.1.2 P w A n c b l hR hP hT hB _ rfl hl
  rw[if_neg k2]at h1;by_cases k3:k=3
  ·subst k3;exact zJ op nm tx v a P w A n c b l hR hP hT hB _ rfl hl
  rw[if_neg k3]at h1;by_cases k4:k=4
  ·subst k4;rw[if_pos rfl]at h1;simp only[au,beq_iff_eq]at h1;obtain⟨y,rfl⟩:=List.length_eq_one_iff.1 h1.2;exact zI op nm tx v y (ih y (by simp)) P w A n c b l hR hP hT hB _ rfl hl
  rw[if_neg k4]at h1;by_cases k5:k=5
  ·subst k5;rw[if_pos rfl]at h1;simp only[au,decide_eq_true_eq]at h1;exact zH op nm tx v a ih h1.1.2 P w A n c b l hR hP hT hB _ rfl hl
  rw[if_neg k5]at h1;by_cases k6:k=6
  ·subst k6;rw[if_pos rfl]at h1;simp only[au,beq_iff_eq]at h1;obtain⟨y,rfl⟩:=List.length_eq_one_iff.1 h1.2;exact zG op nm tx v y (ih y (by simp)) P w A n c b l hR hP hT hB _ rfl hl
  rw[if_neg k6]at h1;by_cases k7:k=7
  ·subst k7;rw[if_pos rfl]at h1;simp only[au,beq_iff_eq]at h1;obtain⟨y,z,rfl⟩: ∃y z,a=[y,z]:=by
    cases a with
    |nil=>simp at h1
    |cons y r=>
     cases r with
     |nil=>simp at h1
     |cons z r=>
      cases r with
      |nil=>exact⟨y,z,rfl⟩
      |cons u r=>simp at h1
   exact zF op nm tx v y z (ih y (by simp)) (ih z (by simp)) P w A n c b l hR hP hT hB _ rfl hl
  ·rw[if_neg k7]at h1
   cases h1
theorem vZ {x:Ex} (h:x.ok=true):l6 x:=rX _ x (ag _) h
def dF (i:Nat):List UInt8:=List.replicate i 9
def cN (i:Nat) (ts:List (List UInt8)):List UInt8:=[123,10]++ts.flatMap (fun t=>dF (i+1)++t++[10])++(dF i++[125])
def jo:List UInt8:=[118,97,114,32]
def oI:List UInt8:=[32,61,32]
def mv:List UInt8:=[105,102,32]
def eR:List UInt8:=[32,101,108,115,101,32]
def fH:List UInt8:=[119,104,105,108,101,32]
def d6:List UInt8:=[114,101,116,117,114,110]
def kv (i:Nat) (k:Int) (nm:List UInt8) (es bs ls l0:List (List UInt8)) (l4:Bool):List UInt8:=
 if k=1 then(if es=[]then jo++nm++[59]else jo++nm++oI++es.headD []++[59])
 else if k=2 then nm++oI++es.headD []++[59]
 else if k=3 then nm++[91]++es.headD []++[93]++(oI++es.tail.headD []++[59])
 else if k=4 then mv++es.headD []++[32]++cN i bs++(if l4 then eR++l0.headD []else if ls=[]then[]else eR++cN i ls)
 else if k=5 then fH++es.headD []++[32]++cN i bs
 else if k=6 then(if es=[]then d6++[59]else d6++[32]++es.headD []++[59])
 else if k=7 then es.headD []++[59]
 else[]
def il (l:List St):Bool:=l.length==1&&l.head?.map St.k==some 4
mutual
def bg:St->Nat->List UInt8| .mk k nm e b l,i=>kv i k nm (c8 e) (bh b (i+1)) (bh l (i+1)) (bh l i) (il l)
def bh:List St->Nat->List (List UInt8)
 | [],_=>[]
 |x::r,i=>bg x i::bh r i
end
theorem g9: ∀(l:List St) (i:Nat),bh l i=l.map fun x=>bg x i
 | [],_=>rfl
 |x::r,i=>by rw[bh,g9 r i];rfl
def gI (v:Vr):List UInt8:=jo++v.nm++(if 0<v.sz then[91]++fw v.sz.toNat++[93]else[])++[59,10]
def wL:List UInt8:=[102,117,110,99,32]
def ir (f:Fc):List UInt8:=wL++f.nm++[40]++cj [44,32] f.ps++[41,32]++cN 0 (bh f.body 1)++[10]
def gJ (p:Pg):List UInt8:=p.vs.flatMap gI++p.fs.flatMap ir
end
end Go.Proofs.YtelplgkppalmfaaGreatDoor
