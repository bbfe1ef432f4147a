/-
  Parts of the proof: PrB PrC.
-/
import Derived.Test.YtddomeddabfinaaGreatDoorTa00
import Derived.Lib.AppendIntMem
import Derived.Test.YtddomeddabfinaaGreatDoorTa17
import Derived.Test.YtddomeddabfinaaGreatDoorTa18
import Derived.Test.YtddomeddabfinaaGreatDoorTa19
set_option maxRecDepth 100000
set_option maxHeartbeats 8000000
set_option linter.unusedVariables false
set_option linter.unusedSimpArgs false
set_option linter.unusedSectionVars false
namespace Go.Proofs.YtddomeddabfinaaGreatDoor
open Go.Proofs.Tryz
section
open Go.RowKit
def dI (sep:List UInt8):List (List UInt8)->List UInt8
 | []=>[]
 |x::r=>x++r.flatMap (fun y=>sep++y)
theorem sD (sep:List UInt8) (l:List (List UInt8)) (x:List UInt8):dI sep (l++[x])=dI sep l++((if l=[]then[]else sep)++x):=by
 cases l with
 |nil=>simp[dI]
 |cons y r=>simp[dI]
def mF (b:Bool) (s:List UInt8):List UInt8:=if b then 40::(s++[41])else s
def r5 (k:Int) (op nm tx:List UInt8) (v:Int) (ps:List Int) (ss:List (List UInt8)):List UInt8:=
 if k=1 then gh v.toNat
 else if k=2 then kR tx
 else if k=3 then nm
 else if k=4 then nm++[91]++ss.headD []++[93]
 else if k=5 then nm++[40]++dI [44,32] ss++[41]
 else if k=6 then op++mF (decide (ps.headD 0<7)) (ss.headD [])
 else if k=7 then mF (decide (ps.headD 0<ky op)) (ss.headD [])++([32]++op++[32])++mF (decide (ps.tail.headD 0<=ky op)) (ss.tail.headD [])
 else[]
mutual
def cd:Ex->List UInt8| .mk k op nm tx v a=>r5 k op nm tx v (a.map Ex.prec) (eE a)
def eE:List Ex->List (List UInt8)| []=>[]|x::r=>cd x::eE r
end
theorem lx: ∀l,eE l=l.map cd
 | []=>rfl
 |x::r=>by rw[eE,lx r];rfl
theorem xL: ∀n,Lib.decDigits n=gh n:=fun n=>by
 induction n using Nat.strongRecOn with
 | _ n ih=>
  rw[Lib.decDigits,gh];split
  ·rfl
  ·rw[ih (n/10) (by omega)]
theorem r_ (l:List UInt8):(kR l).length<=2*l.length+2:=by
 have:=(gM l).2;simp only[kR,ac,Z,ae];omega
theorem rh {v:Int} (h:v<=2147483647):(gh v.toNat).length<=10:=mL 9 v.toNat (by omega)
theorem m5 (b:Bool) (s:List UInt8):(mF b s).length<=s.length+2:=by
 cases b<;>simp[mF]
theorem oV (sep:List UInt8): ∀l:List (List UInt8),(dI sep l).length<=(l.map fun s=>s.length+sep.length).sum
 | []=>by simp[dI]
 |x::r=>by
  have:(r.flatMap fun y=>sep++y).length=(r.map fun s=>s.length+sep.length).sum:=by
   rw[gH]
   congr 1
   apply List.map_congr_left;intro y _;simp;omega
  simp only[dI,Z,bW,eJ,this];omega
theorem eq {P:Nat->Prop} {a b c:World} (h:cw P a b) (k:cw P b c):cw P a c:=⟨aT h.1 k.1,fun x hP hx=>(k.2 x hP (az hx h.1)).trans (h.2 x hP hx)⟩
def dg (w:World) (b:Nat):Prop:=Lib.TabIs prog w "internal/strconv.uint64pow10" .u64 Lib.pow10Tab/\2<b
theorem dg.fb {w w':World} {b:Nat} (h:dg w b) (hF:FB b w w'):dg w' b:=by
 refine⟨?_,h.2⟩;have h1:=h.1;have hg:prog.globalNamed "internal/strconv.uint64pow10" =some 2:=by kernel_rfl
 have hb:=hF.below.block _ h.2;unfold Lib.TabIs World.var? at h1⊢;rw[hg]at h1⊢;simp only[e_]at h1⊢;rw[hb];exact h1
theorem qS (n:Int) (h0:0<=n) (h1:n<=9223372036854775807) (w:World) (b:Nat) (ht:dg w b):Calls prog 92 #[.int .i64 n] w fun e w'=>e= .returned (.string (ah (gh n.toNat)))/\au w w':=by
 refine(Tryz.strconv_Itoa n (by omega) h1 w ht.1).mono ?_;rintro e w' ⟨rfl,k,os,rfl⟩;have:Lib.itoa n=gh n.toNat:=by unfold Lib.itoa;rw[if_neg (by omega),xL]
 rw[this];exact⟨rfl,Lib.below_grow _ w (ag _) k os⟩
structure PC (b px:Nat) (w0:World) (P:Nat->Prop) (t:TypeId) (cs:Array Value) (v:Value) (xs:List Ex) (l:List UInt8) (W:World):Prop where
 box:aQ W px t cs
 bu:Bu W b l
 rd:cu W P v xs
 fb:FB b w0 W
 tab:dg W b
 ne:px≠b
 tt:t≠5
 hP: ∀k,P k->k<b
section
variable {b px:Nat} {w0 W W':World} {P:Nat->Prop} {t:TypeId} {cs:Array Value} {v:Value} {xs:List Ex} {l l':List UInt8}
theorem PC.wr (h:PC b px w0 P t cs v xs l W) (hB:Bu W' b l') (hF:FB b W W'):PC b px w0 P t cs v xs l' W':=
 ⟨hF.keep _ _ _ h.ne h.tt h.box,hB,h.rd.keep (hF.keepP h.hP) (fun _ hb _=>hb),h.fb.trans hF,h.tab.fb hF,h.ne,h.tt,h.hP⟩
theorem PC.ex (h:PC b px w0 P t cs v xs l W) (hE:au W W'):PC b px w0 P t cs v xs l W':=h.wr (h.bu.ext hE) (aS hE (aG h.bu.lt))
end
theorem lK {b:Nat} {w w':World} (h:FB b w.drew w'):FB b w w':=⟨⟨h.below.os,h.below.tape,h.below.output,h.below.size,h.below.block⟩,h.keep⟩
section
variable {P:Program} {ops:Array Oper} {Q:Exit->Act->World->Prop}
theorem gJ {id:Nat} {a:Act} {w:World} (b m f:Nat) (l:List tU) (x:Nat) (hm:P.follows .mixedOrders=true) (hok:A6 ops m a.tmps.size=true) (hbw:b<=w.heap.size)
  (hs:iX au l) (hx:lr x (fun a c=>b<=a.heap.size->FB b a c) l)
  (h:dU P Q ops f (ee l) (some x) (fun _=>false) au (fun a c=>b<=a.heap.size->FB b a c) w.drew (fun a Φ=> ∀w',FB b w w'->(∀p∈Φ,p.2 w')->wpList P ops Q (ops.toList.drop m) a w') (ops.toList.take m) 0 a []):(Code.region id ops true).wp P Q a w:=by
 refine eW m f (ee l) (some x) au (fun a c=>b<=a.heap.size->FB b a c) hm hok aO (fun a c d h1 h2 ha=>(h1 ha).trans (h2 (aT ha (h1 ha).below.size))) (fun a c h ha=>aS h ha) (fun _ _ _=>pq) hs.out hx.out ?_;refine dU.fin (fun a Φ h w' h1 h2=>h w' ?_ h2) _ _ _ _ h;have h3:=h1 hbw;exact⟨⟨h3.below.os,h3.below.tape,h3.below.output,h3.below.size,h3.below.block⟩,h3.keep⟩
end
def mO (x:Ex):Prop:= ∀(P:Nat->Prop) (w:World) (A:Option Addr) (n c b:Nat) (l:List UInt8),cu w P (.slice A n c) x.args->(∀k,P k->k<b)->dg w b->Bu w b l->l.length+(cd x).length<=1000000000->
 Calls prog 201 #[.pointer (some ⟨b,0,none⟩), .agg #[.int .i64 x.k, .string (ah x.op), .string (ah x.nm), .string (ah x.tx), .int .i64 x.v, .slice A n c]] w fun e w'=>e= .returned (.tuple #[])/\Bu w' b (l++cd x)/\FB b w w'
theorem pP (x:Ex) (hx:mO x) (pb:Bool) (P:Nat->Prop) (w:World) (A:Option Addr) (n c b:Nat) (l:List UInt8) (hR:cu w P (.slice A n c) x.args) (hP: ∀k,P k->k<b) (hT:dg w b) (hB:Bu w b l) (hl:l.length+(mF pb (cd x)).length<=1000000000):
  Calls prog 216 #[.pointer (some ⟨b,0,none⟩), .agg #[.int .i64 x.k, .string (ah x.op), .string (ah x.nm), .string (ah x.tx), .int .i64 x.v, .slice A n c], .bool pb] w fun e w'=>e= .returned (.tuple #[])/\Bu w' b (l++mF pb (cd x))/\FB b w w':=by
 have HX:=G hx;clear hx;unfold mO at HX;generalize cd x=S at*;generalize hargs:x.args=xs at*;generalize x.k=k at*;generalize x.op=op at*;generalize x.nm=nm at*;generalize x.tx=tx at*;generalize x.v=v at*;have HC0:=G (show PC b w.heap.size w P 70 #[.int .i64 k, .string (ah op), .string (ah nm), .string (ah tx), .int .i64 v, .slice A n c] (.slice A n c) xs l _ from⟨am w 70 #[.int .i64 k, .string (ah op), .string (ah nm), .string (ah tx), .int .i64 v, .slice A n c],hB.ext (I w _),hR.keep (.of_ext (I w _)) (fun _ hb _=>hb),aS (I w _) (aG hB.lt),hT.fb (aS (I w _) (aG hB.lt)),bA hB.lt,by decide,hP⟩);have hbc:=HC0.out.box.cell;clear hB hR hT
 cases pb with
 |true=>
  have hl:l.length+(S.length+2)<=1000000000:=by simpa[mF]using hl
  go_enter func216,ntmps216;go_wp2_with (first|(go_at_call 91;refine(cm b l [40] _ HC0.out.bu (by simp only[ac,ae];omega)).mono ?_;rintro e u1 ⟨rfl,h1,h2⟩;have HC1:=G (HC0.out.wr h1 h2);clear h1 h2 HC0;clear hbc;have hbc:=HC1.out.box.cell)|(go_at_call 201;refine(HX.out P _ A n c b (l++[40]) HC1.out.rd hP HC1.out.tab HC1.out.bu (by simp only[Z,ac,ae];omega)).mono ?_;rintro e u2 ⟨rfl,h1,h2⟩;have HC2:=G (HC1.out.wr h1 h2);clear h1 h2 HC1)|(go_at_call 91;refine(cm b (l++[40]++S) [41] _ HC2.out.bu (by simp only[Z,ac,ae];omega)).mono ?_;rintro e u3 ⟨rfl,h1,h2⟩;have HC3:=G (HC2.out.wr h1 h2);clear h1 h2 HC2))
  go_end0
  exact⟨rfl,by have:=HC3.out.bu;simpa[mF,aN]using this,HC3.out.fb⟩
 |false=>
  have hl:l.length+S.length<=1000000000:=hl;go_enter func216,ntmps216;go_wp2_with (go_at_call 201;refine(HX.out P _ A n c b l HC0.out.rd hP HC0.out.tab HC0.out.bu (by omega)).mono ?_;rintro e u2 ⟨rfl,h1,h2⟩;have HC2:=G (HC0.out.wr h1 h2);clear h1 h2 HC0)
  go_end0
  exact⟨rfl,HC2.out.bu,HC2.out.fb⟩
theorem Dd (op nm tx:List UInt8) (v:Int) (xs:List Ex) (h0:0<=v) (h1:v<=2147483647) (P:Nat->Prop) (w:World) (A:Option Addr) (n c b:Nat) (l:List UInt8) (hR:cu w P (.slice A n c) xs) (hP: ∀k,P k->k<b) (hT:dg w b) (hB:Bu w b l) (S:List UInt8) (hS:cd (.mk 1 op nm tx v xs)=S) (hl:l.length+S.length<=1000000000):
  Calls prog 201 #[.pointer (some ⟨b,0,none⟩), .agg #[.int .i64 1, .string (ah op), .string (ah nm), .string (ah tx), .int .i64 v, .slice A n c]] w fun e w'=>e= .returned (.tuple #[])/\Bu w' b (l++S)/\FB b w w':=by
 have HS:=G (show gh v.toNat=S from by rw[<-hS];rfl);have hlen:(gh v.toNat).length=S.length:=by rw[HS.out]
 clear hS;have HC0:=G (show PC b w.heap.size w P 70 #[.int .i64 1, .string (ah op), .string (ah nm), .string (ah tx), .int .i64 v, .slice A n c] (.slice A n c) xs l _ from⟨am w 70 #[.int .i64 1, .string (ah op), .string (ah nm), .string (ah tx), .int .i64 v, .slice A n c],hB.ext (I w _),hR.keep (.of_ext (I w _)) (fun _ hb _=>hb),aS (I w _) (aG hB.lt),hT.fb (aS (I w _) (aG hB.lt)),bA hB.lt,by decide,hP⟩);have hbc:=HC0.out.box.cell;clear hB hR hT;have HIt:=G (fun w h=>qS v h0 (by omega) w b h);generalize gh v.toNat=D at*;go_enter func201,ntmps201;go_wp2_with fail;refine ay 6 3 [(5,fun x=>x= .string (ah D),fun _ _=>True)] mixed (by kernel_rfl) ⟨fun _ _ _ _ _=>trivial,trivial⟩ ?_;repeat (refine sx ?_ (fun w1 hU=> ?_) ?_;rotate_left;(focus have f1:=(HC0.out.ex hU.un).box.cell;clear hU;go_simp<;>with_reducible rfl);simp only[aY,aX,aW,aV,aU])
 refine so (fun w6 hU hp K hK=> ?_) ?_
 ·have hT6:=(HC0.out.ex hU.un).tab;clear hp hU;go_simp;refine(HIt.out w6 hT6).mono ?_;rintro e w7 ⟨rfl,hE⟩;exact hK _ _ hE rfl trivial
 rintro _ rfl;simp only[aY,aX,aW,aV,aU];repeat (refine sx ?_ (fun w1 hU=> ?_) ?_;rotate_left;(focus have f1:=(HC0.out.ex hU.un).box.cell;clear hU;go_simp<;>with_reducible rfl);simp only[aY,aX,aW,aV,aU])
 intro z1 hz1 hp;clear hp;simp only[aa,an];have HC1:=G (HC0.out.ex hz1.un);clear hz1 hbc HC0;have hbc:=HC1.out.box.cell;go_wp2_with ((go_at_call 91;refine(cm b l D _ HC1.out.bu (by omega)).mono ?_;rintro e u2 ⟨rfl,h1,h2⟩;have HC2:=G (HC1.out.wr h1 h2);clear h1 h2 HC1))
 go_end0
 exact⟨rfl,by rw[<-HS.out];have:=HC2.out.bu;exact this,HC2.out.fb⟩
theorem Dc (op nm tx:List UInt8) (v:Int) (xs:List Ex) (h0:tx.length<=128) (P:Nat->Prop) (w:World) (A:Option Addr) (n c b:Nat) (l:List UInt8) (hR:cu w P (.slice A n c) xs) (hP: ∀k,P k->k<b) (hT:dg w b) (hB:Bu w b l) (S:List UInt8) (hS:cd (.mk 2 op nm tx v xs)=S) (hl:l.length+S.length<=1000000000):
  Calls prog 201 #[.pointer (some ⟨b,0,none⟩), .agg #[.int .i64 2, .string (ah op), .string (ah nm), .string (ah tx), .int .i64 v, .slice A n c]] w fun e w'=>e= .returned (.tuple #[])/\Bu w' b (l++S)/\FB b w w':=by
 have HS:=G (show kR tx=S from by rw[<-hS];rfl);have hlen:(kR tx).length=S.length:=by rw[HS.out]
 clear hS;have HC0:=G (show PC b w.heap.size w P 70 #[.int .i64 2, .string (ah op), .string (ah nm), .string (ah tx), .int .i64 v, .slice A n c] (.slice A n c) xs l _ from⟨am w 70 #[.int .i64 2, .string (ah op), .string (ah nm), .string (ah tx), .int .i64 v, .slice A n c],hB.ext (I w _),hR.keep (.of_ext (I w _)) (fun _ hb _=>hb),aS (I w _) (aG hB.lt),hT.fb (aS (I w _) (aG hB.lt)),bA hB.lt,by decide,hP⟩);have hbc:=HC0.out.box.cell;clear hB hR hT;have HIt:=G (fun w=>uv tx (by omega) w);generalize kR tx=D at*;go_enter func201,ntmps201;go_wp2_with fail;refine ay 6 3 [(5,fun x=>x= .string (ah D),fun _ _=>True)] mixed (by kernel_rfl) ⟨fun _ _ _ _ _=>trivial,trivial⟩ ?_;repeat (refine sx ?_ (fun w1 hU=> ?_) ?_;rotate_left;(focus have f1:=(HC0.out.ex hU.un).box.cell;clear hU;go_simp<;>with_reducible rfl);simp only[aY,aX,aW,aV,aU])
 refine so (fun w6 hU hp K hK=> ?_) ?_
 ·have hT6:=(HC0.out.ex hU.un).tab;clear hp hU;go_simp;refine(HIt.out w6).mono ?_;rintro e w7 ⟨rfl,hE⟩;exact hK _ _ hE rfl trivial
 rintro _ rfl;simp only[aY,aX,aW,aV,aU];repeat (refine sx ?_ (fun w1 hU=> ?_) ?_;rotate_left;(focus have f1:=(HC0.out.ex hU.un).box.cell;clear hU;go_simp<;>with_reducible rfl);simp only[aY,aX,aW,aV,aU])
 intro z1 hz1 hp;clear hp;simp only[aa,an];have HC1:=G (HC0.out.ex hz1.un);clear hz1 hbc HC0;have hbc:=HC1.out.box.cell;go_wp2_with ((go_at_call 91;refine(cm b l D _ HC1.out.bu (by omega)).mono ?_;rintro e u2 ⟨rfl,h1,h2⟩;have HC2:=G (HC1.out.wr h1 h2);clear h1 h2 HC1))
 go_end0
 exact⟨rfl,by rw[<-HS.out];have:=HC2.out.bu;exact this,HC2.out.fb⟩
theorem Db (op nm tx:List UInt8) (v:Int) (xs:List Ex) (P:Nat->Prop) (w:World) (A:Option Addr) (n c b:Nat) (l:List UInt8) (hR:cu w P (.slice A n c) xs) (hP: ∀k,P k->k<b) (hT:dg w b) (hB:Bu w b l) (S:List UInt8) (hS:cd (.mk 3 op nm tx v xs)=S) (hl:l.length+S.length<=1000000000):
  Calls prog 201 #[.pointer (some ⟨b,0,none⟩), .agg #[.int .i64 3, .string (ah op), .string (ah nm), .string (ah tx), .int .i64 v, .slice A n c]] w fun e w'=>e= .returned (.tuple #[])/\Bu w' b (l++S)/\FB b w w':=by
 have HS:=G (show nm=S from by rw[<-hS];rfl);have hlen:nm.length=S.length:=by rw[HS.out]
 clear hS;have HC0:=G (show PC b w.heap.size w P 70 #[.int .i64 3, .string (ah op), .string (ah nm), .string (ah tx), .int .i64 v, .slice A n c] (.slice A n c) xs l _ from⟨am w 70 #[.int .i64 3, .string (ah op), .string (ah nm), .string (ah tx), .int .i64 v, .slice A n c],hB.ext (I w _),hR.keep (.of_ext (I w _)) (fun _ hb _=>hb),aS (I w _) (aG hB.lt),hT.fb (aS (I w _) (aG hB.lt)),bA hB.lt,by decide,hP⟩);have hbc:=HC0.out.box.cell;clear hB hR hT;go_enter func201,ntmps201;go_wp2_with fail;refine ay 5 3 [] mixed (by kernel_rfl) trivial ?_;repeat (refine sx ?_ (fun w1 hU=> ?_) ?_;rotate_left;(focus have f1:=(HC0.out.ex hU.un).box.cell;clear hU;go_simp<;>with_reducible rfl);simp only[aY,aX,aW,aV,aU])
 intro z1 hz1 hp;clear hp;simp only[aa,an];have HC1:=G (HC0.out.ex hz1.un);clear hz1 hbc HC0;have hbc:=HC1.out.box.cell;go_wp2_with ((go_at_call 91;refine(cm b l nm _ HC1.out.bu (by omega)).mono ?_;rintro e u2 ⟨rfl,h1,h2⟩;have HC2:=G (HC1.out.wr h1 h2);clear h1 h2 HC1))
 go_end0
 exact⟨rfl,by rw[<-HS.out];have:=HC2.out.bu;exact this,HC2.out.fb⟩
theorem Da (op nm tx:List UInt8) (v:Int) (y:Ex) (hy:mO y) (P:Nat->Prop) (w:World) (A:Option Addr) (n c b:Nat) (l:List UInt8) (hR:cu w P (.slice A n c) [y]) (hP: ∀k,P k->k<b) (hT:dg w b) (hB:Bu w b l) (S:List UInt8) (hS:cd (.mk 4 op nm tx v [y])=S) (hl:l.length+S.length<=1000000000):
  Calls prog 201 #[.pointer (some ⟨b,0,none⟩), .agg #[.int .i64 4, .string (ah op), .string (ah nm), .string (ah tx), .int .i64 v, .slice A n c]] w fun e w'=>e= .returned (.tuple #[])/\Bu w' b (l++S)/\FB b w w':=by
 have hn:=hR.len;have HX:=G hy;unfold mO at HX;have HS:=G (show nm++[91]++cd y++[93]=S from by rw[<-hS];rfl);have hlen:nm.length+1+(cd y).length+1=S.length:=by rw[<-HS.out];simp only[Z,ac,ae]
 clear hS hy;simp only[ac,ae]at hn;obtain rfl:n=1:=hn;obtain⟨b0,o0,a0,hA0,hb0,hP0,y00,y10,y20,y30,y40,y50,hRy0⟩:=hR.at_ 0 (by simp);simp only[aB,aP,a_,br,b_]at y00 y10 y20 y30 y40 y50 hRy0;obtain⟨B0,d0,rfl,_⟩:=hRy0.form;have HY0:=G (ax y00 (ax y10 (ax y20 (ax y30 (ax y40 y50)))));have HRy0:=G hRy0;clear y00 y10 y20 y30 y40 y50 hRy0;have HC0:=G (show PC b w.heap.size w P 70 #[.int .i64 4, .string (ah op), .string (ah nm), .string (ah tx), .int .i64 v, .slice A 1 c] (.slice A 1 c) [y] l _ from⟨am w 70 #[.int .i64 4, .string (ah op), .string (ah nm), .string (ah tx), .int .i64 v, .slice A 1 c],hB.ext (I w _),hR.keep (.of_ext (I w _)) (fun _ hb _=>hb),aS (I w _) (aG hB.lt),hT.fb (aS (I w _) (aG hB.lt)),bA hB.lt,by decide,hP⟩);have hbc:=HC0.out.box.cell;clear hB hR hT;obtain⟨c1,Hc1⟩: ∃c,Hid (nm++[91]=c):=⟨_,G rfl⟩
 have hzc1:c1.length=nm.length+1:=by rw[<-Hc1.out,Z];rfl
 have hsc1:ah nm++(⟨#[91]⟩:ByteArray)=ah c1:=by rw[<-Hc1.out];exact dG _ _
 have hmc1: ¬9223372036854775807<nm.length+1:=by omega
 have hkc1: ¬9223372036854775807<1+nm.length:=by omega
 have hqc1nm:(ah nm).size=nm.length:=a6 _;have hqc1l:((⟨#[91]⟩:ByteArray)).size=1:=rfl;subst hA0;generalize cd y=Sy at*;go_enter func201,ntmps201;go_wp2_with fail;refine ay 6 3 [] mixed (by kernel_rfl) trivial ?_;repeat (refine sx ?_ (fun w1 hU=> ?_) ?_;rotate_left;(focus have f1:=(HC0.out.ex hU.un).box.cell;clear hU;go_simp<;>with_reducible rfl);simp only[aY,aX,aW,aV,aU])
 intro z1 hz1 hp;clear hp;simp only[aa,an];have HC1:=G (HC0.out.ex hz1.un);clear hz1 hbc HC0;have hbc:=HC1.out.box.cell;go_wp2_with (first|(go_at_call 91;refine(cm b l c1 _ HC1.out.bu (by omega)).mono ?_;rintro e u2 ⟨rfl,h1,h2⟩;have HC2:=G (HC1.out.wr h1 h2);clear h1 h2 HC1;clear hbc;have hbc:=HC2.out.box.cell;have e0:=(HC2.out.fb.keepP hP).cell (o0) hP0 hb0|>.trans HY0.out.1;have e1:=(HC2.out.fb.keepP hP).cell (o0+1) hP0 hb0|>.trans HY0.out.2.1;have e2:=(HC2.out.fb.keepP hP).cell (o0+2) hP0 hb0|>.trans HY0.out.2.2.1;have e3:=(HC2.out.fb.keepP hP).cell (o0+3) hP0 hb0|>.trans HY0.out.2.2.2.1;have e4:=(HC2.out.fb.keepP hP).cell (o0+4) hP0 hb0|>.trans HY0.out.2.2.2.2.1;have e5:=(HC2.out.fb.keepP hP).cell (o0+5) hP0 hb0|>.trans HY0.out.2.2.2.2.2)|(go_at_call 201;refine(HX.out P _ B0 _ d0 b (l++c1) (HRy0.out.keep (HC2.out.fb.keepP hP) (fun _ hb _=>hb)) hP HC2.out.tab HC2.out.bu (by simp only[Z];omega)).mono ?_;rintro e u3 ⟨rfl,h1,h2⟩;have HC3:=G (HC2.out.wr h1 h2);clear h1 h2 HC2;clear e0 e1 e2 e3 e4 e5)|(go_at_call 91;refine(cm b (l++c1++Sy) [93] _ HC3.out.bu (by simp only[Z,ac,ae];omega)).mono ?_;rintro e u4 ⟨rfl,h1,h2⟩;have HC4:=G (HC3.out.wr h1 h2);clear h1 h2 HC3))
 go_end0
 exact⟨rfl,by rw[<-HS.out];have:=HC4.out.bu;rw[<-Hc1.out]at this;simpa[aN]using this,HC4.out.fb⟩
theorem C_ (op nm tx:List UInt8) (v:Int) (xs:List Ex) (hx: ∀y,y∈xs->mO y) (h4:xs.length<=4) (P:Nat->Prop) (w:World) (A:Option Addr) (n c b:Nat) (l:List UInt8) (hR:cu w P (.slice A n c) xs) (hP: ∀k,P k->k<b) (hT:dg w b) (hB:Bu w b l) (S:List UInt8) (hS:cd (.mk 5 op nm tx v xs)=S) (hl:l.length+S.length<=1000000000):
  Calls prog 201 #[.pointer (some ⟨b,0,none⟩), .agg #[.int .i64 5, .string (ah op), .string (ah nm), .string (ah tx), .int .i64 v, .slice A n c]] w fun e w'=>e= .returned (.tuple #[])/\Bu w' b (l++S)/\FB b w w':=by
 have hn:=hR.len;have HX:=G hx;have HS:=G (show nm++[40]++dI [44,32] (eE xs)++[41]=S from by rw[<-hS];rfl);have hlen:nm.length+1+(dI [44,32] (eE xs)).length+1=S.length:=by rw[<-HS.out];simp only[Z,ac,ae]
 have HN:=G hn;have hn4:(n:Int)<=4:=by omega
 clear hS hx hn;have HC0:=G (show PC b w.heap.size w P 70 #[.int .i64 5, .string (ah op), .string (ah nm), .string (ah tx), .int .i64 v, .slice A n c] (.slice A n c) xs l _ from⟨am w 70 #[.int .i64 5, .string (ah op), .string (ah nm), .string (ah tx), .int .i64 v, .slice A n c],hB.ext (I w _),hR.keep (.of_ext (I w _)) (fun _ hb _=>hb),aS (I w _) (aG hB.lt),hT.fb (aS (I w _) (aG hB.lt)),bA hB.lt,by decide,hP⟩);have hbc:=HC0.out.box.cell;clear hB hR hT;obtain⟨c1,Hc1⟩: ∃c,Hid (nm++[40]=c):=⟨_,G rfl⟩
 have hzc1:c1.length=nm.length+1:=by rw[<-Hc1.out,Z];rfl
 have hsc1:ah nm++(⟨#[40]⟩:ByteArray)=ah c1:=by rw[<-Hc1.out];exact dG _ _
 have hmc1: ¬9223372036854775807<nm.length+1:=by omega
 have hkc1: ¬9223372036854775807<1+nm.length:=by omega
 have hqc1nm:(ah nm).size=nm.length:=a6 _;have hqc1l:((⟨#[40]⟩:ByteArray)).size=1:=rfl;go_enter func201,ntmps201;go_wp2_with fail;refine ay 6 3 [] mixed (by kernel_rfl) trivial ?_;repeat (refine sx ?_ (fun w1 hU=> ?_) ?_;rotate_left;(focus have f1:=(HC0.out.ex hU.un).box.cell;clear hU;go_simp<;>with_reducible rfl);simp only[aY,aX,aW,aV,aU])
 intro z1 hz1 hp;clear hp;simp only[aa,an];have HC1:=G (HC0.out.ex hz1.un);clear hz1 hbc HC0;have hbc:=HC1.out.box.cell;go_wp2_with ((go_at_call 91;refine(cm b l c1 _ HC1.out.bu (by omega)).mono ?_;rintro e u2 ⟨rfl,h1,h2⟩;have HC2:=G (HC1.out.wr h1 h2);clear h1 h2 HC1;clear hbc;have hbc:=HC2.out.box.cell));clear hbc
 go_loopw [66] (fun vi wr=> ∃j:Nat,vi= .int .i64 (j:Int)/\j<=n/\Hid (PC b w.heap.size w P 70 #[.int .i64 5, .string (ah op), .string (ah nm), .string (ah tx), .int .i64 v, .slice A n c] (.slice A n c) xs (l++c1++dI [44,32] ((eE xs).take j)) wr)) (fun vi _=>n-(intOf vi).toNat)
 case atStart=>exact⟨0,rfl,aF _,by simpa[dI]using HC2⟩
 case round=>
  clear HC2;obtain⟨j,rfl,hj,HCr⟩:=hrel;by_cases hlt:j<n
  ·have hlt':(j:Int)<n:=by omega
   have hjl:j<xs.length:=by have:=HN.out;omega
   obtain⟨bj,oj,aj,rfl,hbj,hPj,e0,e1,e2,e3,e4,e5,hRy⟩:=HCr.out.rd.at_ j hjl;have HXy:=G (HX.out _ (ap hjl));have hsl:(eE xs).length=xs.length:=by rw[lx];simp
   have hsj:(eE xs)[j]'(by omega)=cd xs[j]:=by simp[lx]
   have HT:=G (show dI [44,32] ((eE xs).take (j+1))=dI [44,32] ((eE xs).take j)++((if(eE xs).take j=[]then[]else[44,32])++cd xs[j])from by rw[bp (by omega),sD,hsj]);have hbd:(dI [44,32] ((eE xs).take (j+1))).length<=(dI [44,32] (eE xs)).length:=by
    have:eE xs=(eE xs).take (j+1)++(eE xs).drop (j+1):=(cG _ _).symm
    conv=>rhs;rw[this]
    cases h:(eE xs).take (j+1)with
    |nil=>simp[dI]
    |cons a r=>simp[dI]
   have hte:((eE xs).take j=[])↔j=0:=by
    rw[List.take_eq_nil_iff];constructor
    ·rintro(h|h)
     ·exact h
     ·rw[h]at hsl;simp at hsl;omega
    ·exact fun h=> .inl h
   generalize xs[j]=y at*;unfold mO at HXy;obtain⟨By,dy,rfl,_⟩:=hRy.form;have HRy:=G hRy;have hey:y.args.length=y.args.length:=rfl;have hsz:=HCr.out.bu.lt;have HC1:=G (HCr.out.ex (I _ (.cells #[.int .i64 y.k, .string (ah y.op), .string (ah y.nm), .string (ah y.tx), .int .i64 y.v, .slice By y.args.length dy] 70)));have HYB:=G (am wr 70 #[.int .i64 y.k, .string (ah y.op), .string (ah y.nm), .string (ah y.tx), .int .i64 y.v, .slice By y.args.length dy]);have hpy:wr.heap.size≠b:=by omega
   have HRz:=G (hRy.keep (.of_ext (I wr (.cells #[.int .i64 y.k, .string (ah y.op), .string (ah y.nm), .string (ah y.tx), .int .i64 y.v, .slice By y.args.length dy] 70))) (fun _ hb _=>hb));generalize dI [44,32] ((eE xs).take j)=J at*;generalize hJ1:dI [44,32] ((eE xs).take (j+1))=J1 at*;have hJl:=congrArg List.length HT.out;simp only[Z]at hJl;generalize cd y=Sy at*;clear hRy hsl hsj HRy hey;by_cases hj0:j=0
   ·subst hj0;simp only[a_,br]at e0 e1 e2 e3 e4 e5;rw[if_pos (hte.2 rfl)]at HT hJl;simp only[ae]at hJl;clear hte;go_wp2_with (go_at_call 201;refine(HXy.out P _ By _ dy b (l++c1++J) HRz.out hP HC1.out.tab HC1.out.bu (by simp only[Z];omega)).mono ?_;rintro e u3 ⟨rfl,h1,h2⟩;have HC3:=G (HC1.out.wr h1 h2);clear h1 h2 HC1);go_roundw
    case rel=>exact⟨1,rfl,by omega,by have:=HT.out;rw[show dI [44,32] (List.take 1 (eE xs))=J1 from hJ1,this];simpa[aN]using HC3⟩
    case measure=>simp[intOf];omega
   ·have hj1:(0:Int)<j:=by omega
    have hj2:0<j:=by omega
    rw[if_neg (fun h=>hj0 (hte.1 h))]at HT hJl;simp only[ac,ae]at hJl;clear hte;have hyc:=HYB.out.cell;go_wp2_with (first|(go_at_call 91;refine(cm b (l++c1++J) [44,32] _ HC1.out.bu (by simp only[Z,ac,ae];omega)).mono ?_;rintro e u2 ⟨rfl,h1,h2⟩;have HC2:=G (HC1.out.wr h1 h2);have HYB2:=G (h2.keep _ _ _ hpy (by decide) HYB.out);have hyc2:=HYB2.out.cell;have HRw:=G (HRz.out.keep (h2.keepP hP) (fun _ hb _=>hb));clear h1 h2 HC1;clear hyc)|(go_at_call 201;refine(HXy.out P _ By _ dy b (l++c1++J++[44,32]) HRw.out hP HC2.out.tab HC2.out.bu (by simp only[Z,ac,ae];omega)).mono ?_;rintro e u3 ⟨rfl,h1,h2⟩;have HC3:=G (HC2.out.wr h1 h2);clear h1 h2 HC2));go_roundw
    case rel=>exact⟨j+1,by go_num,by omega,by have:=HT.out;rw[hJ1,this];simpa[aN]using HC3⟩
    case measure=>simp[intOf];omega
  ·have hlt': ¬(j:Int)<n:=by omega
   have hjn:j=n:=by omega
   have HQ:=G (show(eE xs).take j=eE xs from by rw[hjn,HN.out,bC (by rw[lx];simp)]);rw[HQ.out]at HCr;generalize dI [44,32] (eE xs)=J at*;clear HQ;go_wp2_with ((go_at_call 91;refine(cm b (l++c1++J) [41] _ HCr.out.bu (by simp only[Z,ac,ae];omega)).mono ?_;rintro e ue ⟨rfl,h1,h2⟩;have HCe:=G (HCr.out.wr h1 h2);clear h1 h2 HCr))
   go_end0
   exact⟨rfl,by rw[<-HS.out];have:=HCe.out.bu;rw[<-Hc1.out]at this;simpa[aN]using this,HCe.out.fb⟩
theorem C9 (op nm tx:List UInt8) (v:Int) (y:Ex) (hy:mO y) (P:Nat->Prop) (w:World) (A:Option Addr) (n c b:Nat) (l:List UInt8) (hR:cu w P (.slice A n c) [y]) (hP: ∀k,P k->k<b) (hT:dg w b) (hB:Bu w b l) (S:List UInt8) (hS:cd (.mk 6 op nm tx v [y])=S) (hl:l.length+S.length<=1000000000):
  Calls prog 201 #[.pointer (some ⟨b,0,none⟩), .agg #[.int .i64 6, .string (ah op), .string (ah nm), .string (ah tx), .int .i64 v, .slice A n c]] w fun e w'=>e= .returned (.tuple #[])/\Bu w' b (l++S)/\FB b w w':=by
 have hn:=hR.len;have HS:=G (show op++mF (decide (y.prec<7)) (cd y)=S from by rw[<-hS];rfl);have hpl:=m5 (decide (y.prec<7)) (cd y);have hlen:op.length+(mF (decide (y.prec<7)) (cd y)).length=S.length:=by rw[<-HS.out];simp only[Z]
 have hpg:(cd y).length<=(mF (decide (y.prec<7)) (cd y)).length:=by unfold mF;split<;>simp<;>omega
 clear hS;simp only[ac,ae]at hn;obtain rfl:n=1:=hn;obtain⟨b0,o0,a0,hA0,hb0,hP0,y00,y10,y20,y30,y40,y50,hRy0⟩:=hR.at_ 0 (by simp);simp only[aB,aP,a_,br,b_]at y00 y10 y20 y30 y40 y50 hRy0;obtain⟨B0,d0,rfl,_⟩:=hRy0.form;have HY0:=G (ax y00 (ax y10 (ax y20 (ax y30 (ax y40 y50)))));have HRy0:=G hRy0;clear y00 y10 y20 y30 y40 y50 hRy0;subst hA0;have HC0:=G (show PC b w.heap.size w P 70 #[.int .i64 6, .string (ah op), .string (ah nm), .string (ah tx), .int .i64 v, .slice (some ⟨b0,o0,none⟩) 1 c] (.slice (some ⟨b0,o0,none⟩) 1 c) [y] l _ from⟨am w 70 #[.int .i64 6, .string (ah op), .string (ah nm), .string (ah tx), .int .i64 v, .slice (some ⟨b0,o0,none⟩) 1 c],hB.ext (I w _),hR.keep (.of_ext (I w _)) (fun _ hb _=>hb),aS (I w _) (aG hB.lt),hT.fb (aS (I w _) (aG hB.lt)),bA hB.lt,by decide,hP⟩);have hbc:=HC0.out.box.cell;clear hB hR hT;have HPR0:=G (fun w=>lB y w (.slice B0 y.args.length d0) ⟨_,_,_,rfl⟩);have HO0:=G (pP y hy);generalize y.prec=p0 at*;generalize cd y=Sy at*;clear hy;go_enter func201,ntmps201;go_wp2_with fail;refine ay 5 3 [] mixed (by kernel_rfl) trivial ?_;repeat (refine sx ?_ (fun w1 hU=> ?_) ?_;rotate_left;(focus have f1:=(HC0.out.ex hU.un).box.cell;clear hU;go_simp<;>with_reducible rfl);simp only[aY,aX,aW,aV,aU])
 intro z1 hz1 hp;clear hp;simp only[aa,an];have HC1:=G (HC0.out.ex hz1.un);clear hz1 hbc HC0;have hbc:=HC1.out.box.cell;go_wp2_with ((go_at_call 91;refine(cm b l op _ HC1.out.bu (by omega)).mono ?_;rintro e u2 ⟨rfl,h1,h2⟩;have HC2:=G (HC1.out.wr h1 h2);clear h1 h2 HC1;clear hbc;have hbc:=HC2.out.box.cell));have hbw2:=aG HC2.out.bu.lt;clear hbc;refine gJ b 12 8 [(9,fun x=>x= .int .i64 p0,fun _ _=>True),(11,fun x=>x= .tuple #[],fun _ wx=>Bu wx b (l++op++mF (decide (p0<7)) Sy))] 11 mixed (by kernel_rfl) hbw2 ⟨fun _ _ _ _ _=>trivial,fun _ _ _ h hx=>h.ext hx,trivial⟩ ⟨.inr fun _ _ _ _ _=>trivial, .inl rfl,trivial⟩ ?_;repeat (refine sx ?_ (fun w1 hU=> ?_) ?_;rotate_left;(focus have hF:=lK (hU hbw2);have f1:=(hF.keep _ _ _ HC2.out.ne HC2.out.tt HC2.out.box).cell;have hK:=eq (HC2.out.fb.keepP hP) (hF.keepP hP);have e0:=(hK.cell (o0) hP0 hb0).trans HY0.out.1;have e1:=(hK.cell (o0+1) hP0 hb0).trans HY0.out.2.1;have e2:=(hK.cell (o0+2) hP0 hb0).trans HY0.out.2.2.1;have e3:=(hK.cell (o0+3) hP0 hb0).trans HY0.out.2.2.2.1;have e4:=(hK.cell (o0+4) hP0 hb0).trans HY0.out.2.2.2.2.1;have e5:=(hK.cell (o0+5) hP0 hb0).trans HY0.out.2.2.2.2.2;clear hF hK hU;go_simp<;>with_reducible rfl);simp only[aY,aX,aW,aV,aU])
 refine so (fun w6 hU hp K hK=> ?_) ?_
 ·clear hp hU;go_simp;refine(HPR0.out w6).mono ?_;rintro e w7 ⟨rfl,hE⟩;exact hK _ _ hE rfl trivial
 rintro _ rfl;simp only[aY,aX,aW,aV,aU];repeat (refine sx ?_ (fun w1 hU=> ?_) ?_;rotate_left;(focus have hF:=lK (hU hbw2);have f1:=(hF.keep _ _ _ HC2.out.ne HC2.out.tt HC2.out.box).cell;have hK:=eq (HC2.out.fb.keepP hP) (hF.keepP hP);have e0:=(hK.cell (o0) hP0 hb0).trans HY0.out.1;have e1:=(hK.cell (o0+1) hP0 hb0).trans HY0.out.2.1;have e2:=(hK.cell (o0+2) hP0 hb0).trans HY0.out.2.2.1;have e3:=(hK.cell (o0+3) hP0 hb0).trans HY0.out.2.2.2.1;have e4:=(hK.cell (o0+4) hP0 hb0).trans HY0.out.2.2.2.2.1;have e5:=(hK.cell (o0+5) hP0 hb0).trans HY0.out.2.2.2.2.2;clear hF hK hU;go_simp<;>with_reducible rfl);simp only[aY,aX,aW,aV,aU])
 refine bG _ _ (by rfl) rfl ⟨_,rfl⟩ rfl (fun w6 hT hp K hK=> ?_) ?_
 ·have HC6:=G (HC2.out.ex hT.un);have hR6:=HRy0.out.keep (eq (HC2.out.fb.keepP hP) (.of_ext hT.un)) (fun _ hb _=>hb);have HR6:=G hR6;clear hp hT hR6;go_simp;refine(HO0.out (decide (p0<7)) P w6 B0 _ d0 b (l++op) HR6.out hP HC6.out.tab HC6.out.bu (by first|omega|(simp only[Z,ac,ae];omega))).mono ?_;rintro e w7 ⟨rfl,h1,h2⟩;exact hK _ _ (fun _=>h2) rfl h1
 rintro _ rfl;simp only[aY,aX,aW,aV,aU];intro v3 hv hp;have HC3:=G (HC2.out.wr (hp _ (.head _)) hv);clear hv hp;simp only[aa,aJ];have hbc:=HC3.out.box.cell;go_wp2_with fail
 go_end0
 exact⟨rfl,by rw[<-HS.out];have:=HC3.out.bu;simpa[aN]using this,HC3.out.fb⟩
theorem C8 (op nm tx:List UInt8) (v:Int) (y z:Ex) (hy:mO y) (hz:mO z) (P:Nat->Prop) (w:World) (A:Option Addr) (n c b:Nat) (l:List UInt8) (hR:cu w P (.slice A n c) [y,z]) (hP: ∀k,P k->k<b) (hT:dg w b) (hB:Bu w b l) (S:List UInt8) (hS:cd (.mk 7 op nm tx v [y,z])=S) (hl:l.length+S.length<=1000000000):
  Calls prog 201 #[.pointer (some ⟨b,0,none⟩), .agg #[.int .i64 7, .string (ah op), .string (ah nm), .string (ah tx), .int .i64 v, .slice A n c]] w fun e w'=>e= .returned (.tuple #[])/\Bu w' b (l++S)/\FB b w w':=by
 have hn:=hR.len;have HS:=G (show mF (decide (y.prec<ky op)) (cd y)++([32]++op++[32])++mF (decide (z.prec<=ky op)) (cd z)=S from by rw[<-hS];rfl);have hlen:(mF (decide (y.prec<ky op)) (cd y)).length+(1+op.length+1)+(mF (decide (z.prec<=ky op)) (cd z)).length=S.length:=by rw[<-HS.out];simp only[Z,ac,ae]
 have hpg:(cd y).length<=(mF (decide (y.prec<ky op)) (cd y)).length:=by unfold mF;split<;>simp<;>omega
 have hph:(cd z).length<=(mF (decide (z.prec<=ky op)) (cd z)).length:=by unfold mF;split<;>simp<;>omega
 clear hS;simp only[ac,ae]at hn;obtain rfl:n=2:=hn;obtain⟨b0,o0,a0,hA0,hb0,hP0,y00,y10,y20,y30,y40,y50,hRy0⟩:=hR.at_ 0 (by simp);simp only[aB,aP,a_,br,b_]at y00 y10 y20 y30 y40 y50 hRy0;obtain⟨B0,d0,rfl,_⟩:=hRy0.form;subst hA0;obtain⟨b1,o1,a1,hA1,hb1,hP1,y01,y11,y21,y31,y41,y51,hRy1⟩:=hR.at_ 1 (by simp);simp only[aB,aP,a_,br,b_]at y01 y11 y21 y31 y41 y51 hRy1;obtain⟨B1,d1,rfl,_⟩:=hRy1.form;injection hA1 with hA1;injection hA1 with hA1 hA2;subst hA1 hA2;have HY0:=G (ax y00 (ax y10 (ax y20 (ax y30 (ax y40 y50)))));have HRy0:=G hRy0;clear y00 y10 y20 y30 y40 y50 hRy0;have HY1:=G (ax y01 (ax y11 (ax y21 (ax y31 (ax y41 y51)))));have HRy1:=G hRy1;clear y01 y11 y21 y31 y41 y51 hRy1;have HC0:=G (show PC b w.heap.size w P 70 #[.int .i64 7, .string (ah op), .string (ah nm), .string (ah tx), .int .i64 v, .slice (some ⟨b0,o0,none⟩) 2 c] (.slice (some ⟨b0,o0,none⟩) 2 c) [y,z] l _ from⟨am w 70 #[.int .i64 7, .string (ah op), .string (ah nm), .string (ah tx), .int .i64 v, .slice (some ⟨b0,o0,none⟩) 2 c],hB.ext (I w _),hR.keep (.of_ext (I w _)) (fun _ hb _=>hb),aS (I w _) (aG hB.lt),hT.fb (aS (I w _) (aG hB.lt)),bA hB.lt,by decide,hP⟩);have hbc:=HC0.out.box.cell;clear hB hR hT;have HPR0:=G (fun w=>lB y w (.slice B0 y.args.length d0) ⟨_,_,_,rfl⟩);have HO0:=G (pP y hy);have HPR1:=G (fun w=>lB z w (.slice B1 z.args.length d1) ⟨_,_,_,rfl⟩);have HO1:=G (pP z hz);generalize y.prec=p0 at*;generalize z.prec=p1 at*;obtain⟨c1,Hc1⟩: ∃c,Hid ([32]++op=c):=⟨_,G rfl⟩
 have hzc1:c1.length=1+op.length:=by rw[<-Hc1.out,Z];rfl
 have hsc1:(⟨#[32]⟩:ByteArray)++ah op=ah c1:=by rw[<-Hc1.out];exact dG _ _
 have hmc1: ¬9223372036854775807<1+op.length:=by omega
 have hkc1: ¬9223372036854775807<op.length+1:=by omega
 have hqc1l:((⟨#[32]⟩:ByteArray)).size=1:=rfl;have hqc1op:(ah op).size=op.length:=a6 _;obtain⟨c2,Hc2⟩: ∃c,Hid (c1++[32]=c):=⟨_,G rfl⟩
 have hzc2:c2.length=c1.length+1:=by rw[<-Hc2.out,Z];rfl
 have hsc2:ah c1++(⟨#[32]⟩:ByteArray)=ah c2:=by rw[<-Hc2.out];exact dG _ _
 have hmc2: ¬9223372036854775807<c1.length+1:=by omega
 have hkc2: ¬9223372036854775807<1+c1.length:=by omega
 have hqc2c1:(ah c1).size=c1.length:=a6 _;have hqc2l:((⟨#[32]⟩:ByteArray)).size=1:=rfl;have Hz1:=G hzc1;have Hz2:=G hzc2;clear hzc1 hzc2;have HPS:=G (fun w=>lB (.mk 7 op nm tx v [y,z]) w (.slice (some ⟨b0,o0,none⟩) 2 c) ⟨_,_,_,rfl⟩);have hps:Ex.prec (.mk 7 op nm tx v [y,z])=ky op:=rfl;rw[hps]at HPS;simp only[Ex.k,Ex.op,Ex.nm,Ex.tx,Ex.v]at HPS;generalize ky op=L at*;generalize cd y=Sy at*;generalize cd z=Sz at*;clear hy hz hps;go_enter func201,ntmps201;go_wp2_with (go_at_call 217;refine(HPS.out _).mono ?_;rintro e u1 ⟨rfl,hE⟩;have HC1:=G (HC0.out.ex hE);clear hE hbc HC0;have hbc:=HC1.out.box.cell);have hbw1:=aG HC1.out.bu.lt;clear hbc;refine gJ b 13 8 [(9,fun x=>x= .int .i64 p0,fun _ _=>True),(12,fun x=>x= .tuple #[],fun _ wx=>Bu wx b (l++mF (decide (p0<L)) Sy))] 12 mixed (by kernel_rfl) hbw1 ⟨fun _ _ _ _ _=>trivial,fun _ _ _ h hx=>h.ext hx,trivial⟩ ⟨.inr fun _ _ _ _ _=>trivial, .inl rfl,trivial⟩ ?_;repeat (refine sx ?_ (fun w1 hU=> ?_) ?_;rotate_left;(focus have hF:=lK (hU hbw1);have f1:=(hF.keep _ _ _ HC1.out.ne HC1.out.tt HC1.out.box).cell;have hK:=eq (HC1.out.fb.keepP hP) (hF.keepP hP);have e0:=(hK.cell (o0) hP0 hb0).trans HY0.out.1;have e1:=(hK.cell (o0+1) hP0 hb0).trans HY0.out.2.1;have e2:=(hK.cell (o0+2) hP0 hb0).trans HY0.out.2.2.1;have e3:=(hK.cell (o0+3) hP0 hb0).trans HY0.out.2.2.2.1;have e4:=(hK.cell (o0+4) hP0 hb0).trans HY0.out.2.2.2.2.1;have e5:=(hK.cell (o0+5) hP0 hb0).trans HY0.out.2.2.2.2.2;clear hF hK hU;go_simp<;>with_reducible rfl);simp only[aY,aX,aW,aV,aU])
 refine so (fun w6 hU hp K hK=> ?_) ?_
 ·clear hp hU;go_simp;refine(HPR0.out w6).mono ?_;rintro e w7 ⟨rfl,hE⟩;exact hK _ _ hE rfl trivial
 rintro _ rfl;simp only[aY,aX,aW,aV,aU];repeat (refine sx ?_ (fun w1 hU=> ?_) ?_;rotate_left;(focus have hF:=lK (hU hbw1);have f1:=(hF.keep _ _ _ HC1.out.ne HC1.out.tt HC1.out.box).cell;have hK:=eq (HC1.out.fb.keepP hP) (hF.keepP hP);have e0:=(hK.cell (o0) hP0 hb0).trans HY0.out.1;have e1:=(hK.cell (o0+1) hP0 hb0).trans HY0.out.2.1;have e2:=(hK.cell (o0+2) hP0 hb0).trans HY0.out.2.2.1;have e3:=(hK.cell (o0+3) hP0 hb0).trans HY0.out.2.2.2.1;have e4:=(hK.cell (o0+4) hP0 hb0).trans HY0.out.2.2.2.2.1;have e5:=(hK.cell (o0+5) hP0 hb0).trans HY0.out.2.2.2.2.2;clear hF hK hU;go_simp<;>with_reducible rfl);simp only[aY,aX,aW,aV,aU])
 refine bG _ _ (by rfl) rfl ⟨_,rfl⟩ rfl (fun w6 hT hp K hK=> ?_) ?_
 ·have HC6:=G (HC1.out.ex hT.un);have hR6:=HRy0.out.keep (eq (HC1.out.fb.keepP hP) (.of_ext hT.un)) (fun _ hb _=>hb);have HR6:=G hR6;clear hp hT hR6;go_simp;refine(HO0.out (decide (p0<L)) P w6 B0 _ d0 b (l) HR6.out hP HC6.out.tab HC6.out.bu (by first|omega|(simp only[Z,ac,ae];omega))).mono ?_;rintro e w7 ⟨rfl,h1,h2⟩;exact hK _ _ (fun _=>h2) rfl h1
 rintro _ rfl;simp only[aY,aX,aW,aV,aU];intro v2 hv hp;have HC2:=G (HC1.out.wr (hp _ (.head _)) hv);clear hv hp;simp only[aa,aJ];have hbc:=HC2.out.box.cell;go_wp2_with fail;generalize hq1:mF (decide (p0<L)) Sy=Q1 at*;refine ay 7 3 [] mixed (by kernel_rfl) trivial ?_;repeat (refine sx ?_ (fun w1 hU=> ?_) ?_;rotate_left;(focus have f1:=(HC2.out.ex hU.un).box.cell;clear hU;go_simp<;>with_reducible rfl);simp only[aY,aX,aW,aV,aU])
 intro z3 hz3 hp;clear hp;simp only[aa,an];have HC3:=G (HC2.out.ex hz3.un);clear hz3 hbc HC2;have hbc:=HC3.out.box.cell;go_wp2_with ((go_at_call 91;refine(cm b (l++Q1) c2 _ HC3.out.bu (by have a1:=Hz1.out;have a2:=Hz2.out;simp only[Z];omega)).mono ?_;rintro e u4 ⟨rfl,h1,h2⟩;have HC4:=G (HC3.out.wr h1 h2);clear h1 h2 HC3;clear hbc;have hbc:=HC4.out.box.cell));have a1:l.length+Q1.length+c2.length+(mF (decide (p1<=L)) Sz).length<=1000000000:=by have a1:=Hz1.out;have a2:=Hz2.out;omega
 clear hsc1 hsc2 hmc1 hmc2 hkc1 hkc2 hqc1l hqc1op hqc2c1 hqc2l hlen hl hpg hph;have hbw4:=aG HC4.out.bu.lt;clear hbc;refine gJ b 13 8 [(9,fun x=>x= .int .i64 p1,fun _ _=>True),(12,fun x=>x= .tuple #[],fun _ wx=>Bu wx b (l++Q1++c2++mF (decide (p1<=L)) Sz))] 12 mixed (by kernel_rfl) hbw4 ⟨fun _ _ _ _ _=>trivial,fun _ _ _ h hx=>h.ext hx,trivial⟩ ⟨.inr fun _ _ _ _ _=>trivial, .inl rfl,trivial⟩ ?_;repeat (refine sx ?_ (fun w1 hU=> ?_) ?_;rotate_left;(focus have hF:=lK (hU hbw4);have f1:=(hF.keep _ _ _ HC4.out.ne HC4.out.tt HC4.out.box).cell;have hK:=eq (HC4.out.fb.keepP hP) (hF.keepP hP);have e0:=(hK.cell (o0+6) hP1 hb1).trans HY1.out.1;have e1:=(hK.cell (o0+6+1) hP1 hb1).trans HY1.out.2.1;have e2:=(hK.cell (o0+6+2) hP1 hb1).trans HY1.out.2.2.1;have e3:=(hK.cell (o0+6+3) hP1 hb1).trans HY1.out.2.2.2.1;have e4:=(hK.cell (o0+6+4) hP1 hb1).trans HY1.out.2.2.2.2.1;have e5:=(hK.cell (o0+6+5) hP1 hb1).trans HY1.out.2.2.2.2.2;clear hF hK hU;go_simp<;>with_reducible rfl);simp only[aY,aX,aW,aV,aU])
 refine so (fun w6 hU hp K hK=> ?_) ?_
 ·clear hp hU;go_simp;refine(HPR1.out w6).mono ?_;rintro e w7 ⟨rfl,hE⟩;exact hK _ _ hE rfl trivial
 rintro _ rfl;simp only[aY,aX,aW,aV,aU];repeat (refine sx ?_ (fun w1 hU=> ?_) ?_;rotate_left;(focus have hF:=lK (hU hbw4);have f1:=(hF.keep _ _ _ HC4.out.ne HC4.out.tt HC4.out.box).cell;have hK:=eq (HC4.out.fb.keepP hP) (hF.keepP hP);have e0:=(hK.cell (o0+6) hP1 hb1).trans HY1.out.1;have e1:=(hK.cell (o0+6+1) hP1 hb1).trans HY1.out.2.1;have e2:=(hK.cell (o0+6+2) hP1 hb1).trans HY1.out.2.2.1;have e3:=(hK.cell (o0+6+3) hP1 hb1).trans HY1.out.2.2.2.1;have e4:=(hK.cell (o0+6+4) hP1 hb1).trans HY1.out.2.2.2.2.1;have e5:=(hK.cell (o0+6+5) hP1 hb1).trans HY1.out.2.2.2.2.2;clear hF hK hU;go_simp<;>with_reducible rfl);simp only[aY,aX,aW,aV,aU])
 refine bG _ _ (by rfl) rfl ⟨_,rfl⟩ rfl (fun w6 hT hp K hK=> ?_) ?_
 ·have HC6:=G (HC4.out.ex hT.un);have hR6:=HRy1.out.keep (eq (HC4.out.fb.keepP hP) (.of_ext hT.un)) (fun _ hb _=>hb);have HR6:=G hR6;clear hp hT hR6;go_simp;refine(HO1.out (decide (p1<=L)) P w6 B1 _ d1 b (l++Q1++c2) HR6.out hP HC6.out.tab HC6.out.bu (by first|omega|(simp only[Z,ac,ae];omega))).mono ?_;rintro e w7 ⟨rfl,h1,h2⟩;exact hK _ _ (fun _=>h2) rfl h1
 rintro _ rfl;simp only[aY,aX,aW,aV,aU];intro v5 hv hp;have HC5:=G (HC4.out.wr (hp _ (.head _)) hv);clear hv hp;simp only[aa,aJ];have hbc:=HC5.out.box.cell;go_wp2_with fail
 go_end0
 exact⟨rfl,by rw[<-HS.out];have:=HC5.out.bu;rw[<-Hc2.out,<-Hc1.out]at this;simpa[aN]using this,HC5.out.fb⟩
end
section
open Go.RowKit
theorem tn: ∀(m:Nat) (x:Ex),x.wt<=m->x.ok=true->mO x
 |0,x,hm,_=>absurd hm (by have:=x.wt_eq;omega)
 |m+1, .mk k op nm tx v a,hm,h=>by
  have hw:=(Ex.mk k op nm tx v a).wt_eq;simp only[Ex.op,Ex.nm,Ex.tx,Ex.args]at hw;rw[Ex.ok,ai]at h;obtain⟨h1,h2⟩:=h;rw[pU]at h2;have ih: ∀y,y∈a->mO y:=fun y hy=>tn m y (by have:=dE hy;omega) (List.all_eq_true.1 h2 y hy);intro P w A n c b l hR hP hT hB hl;simp only[Ex.k,Ex.op,Ex.nm,Ex.tx,Ex.v,Ex.args]at*;by_cases k1:k=1
  ·subst k1;rw[if_pos rfl]at h1;simp only[ai,decide_eq_true_eq]at h1;exact Dd op nm tx v a h1.1.1.1 h1.1.1.2 P w A n c b l hR hP hT hB _ rfl hl
  rw[if_neg k1]at h1;by_cases k2:k=2
  ·subst k2;rw[if_pos rfl]at h1;simp only[ai,pR,decide_eq_true_eq]at h1;exact Dc op nm tx v a h1.1.1.2 P w A n c b l hR hP hT hB _ rfl hl
  rw[if_neg k2]at h1;by_cases k3:k=3
  ·subst k3;exact Db op nm tx v a P w A n c b l hR hP hT hB _ rfl hl
  rw[if_neg k3]at h1;by_cases k4:k=4
  ·subst k4;rw[if_pos rfl]at h1;simp only[ai,beq_iff_eq]at h1;obtain⟨y,rfl⟩:=List.length_eq_one_iff.1 h1.2;exact Da op nm tx v y (ih y (by simp)) P w A n c b l hR hP hT hB _ rfl hl
  rw[if_neg k4]at h1;by_cases k5:k=5
  ·subst k5;rw[if_pos rfl]at h1;simp only[ai,decide_eq_true_eq]at h1;exact C_ op nm tx v a ih h1.1.2 P w A n c b l hR hP hT hB _ rfl hl
  rw[if_neg k5]at h1;by_cases k6:k=6
  ·subst k6;rw[if_pos rfl]at h1;simp only[ai,beq_iff_eq]at h1;obtain⟨y,rfl⟩:=List.length_eq_one_iff.1 h1.2;exact C9 op nm tx v y (ih y (by simp)) P w A n c b l hR hP hT hB _ rfl hl
  rw[if_neg k6]at h1;by_cases k7:k=7
  ·subst k7;rw[if_pos rfl]at h1;simp only[ai,beq_iff_eq]at h1;obtain⟨y,z,rfl⟩: ∃y z,a=[y,z]:=by
    cases a with
    |nil=>simp at h1
    |cons y r=>
     cases r with
     |nil=>simp at h1
     |cons z r=>
      cases r with
      |nil=>exact⟨y,z,rfl⟩
      |cons u r=>simp at h1
   exact C8 op nm tx v y z (ih y (by simp)) (ih z (by simp)) P w A n c b l hR hP hT hB _ rfl hl
  ·rw[if_neg k7]at h1
   cases h1
theorem y' {x:Ex} (h:x.ok=true):mO x:=tn _ x (ag _) h
def iW (i:Nat):List UInt8:=List.replicate i 9
def eM (i:Nat) (ts:List (List UInt8)):List UInt8:=[123,10]++ts.flatMap (fun t=>iW (i+1)++t++[10])++(iW i++[125])
def rT:List UInt8:=[118,97,114,32]
def BX:List UInt8:=[32,61,32]
def BJ:List UInt8:=[105,102,32]
def nq:List UInt8:=[32,101,108,115,101,32]
def wk:List UInt8:=[119,104,105,108,101,32]
def ki:List UInt8:=[114,101,116,117,114,110]
def iJ (i:Nat) (k:Int) (nm:List UInt8) (es bs ls l0:List (List UInt8)) (mM:Bool):List UInt8:=
 if k=1 then(if es=[]then rT++nm++[59]else rT++nm++BX++es.headD []++[59])
 else if k=2 then nm++BX++es.headD []++[59]
 else if k=3 then nm++[91]++es.headD []++[93]++(BX++es.tail.headD []++[59])
 else if k=4 then BJ++es.headD []++[32]++eM i bs++(if mM then nq++l0.headD []else if ls=[]then[]else nq++eM i ls)
 else if k=5 then wk++es.headD []++[32]++eM i bs
 else if k=6 then(if es=[]then ki++[59]else ki++[32]++es.headD []++[59])
 else if k=7 then es.headD []++[59]
 else[]
def mw (l:List St):Bool:=l.length==1&&l.head?.map St.k==some 4
mutual
def dB:St->Nat->List UInt8| .mk k nm e b l,i=>iJ i k nm (eE e) (bF b (i+1)) (bF l (i+1)) (bF l i) (mw l)
def bF:List St->Nat->List (List UInt8)
 | [],_=>[]
 |x::r,i=>dB x i::bF r i
end
theorem kn: ∀(l:List St) (i:Nat),bF l i=l.map fun x=>dB x i
 | [],_=>rfl
 |x::r,i=>by rw[bF,kn r i];rfl
def j3 (v:Vr):List UInt8:=rT++v.nm++(if 0<v.sz then[91]++gh v.sz.toNat++[93]else[])++[59,10]
def qv:List UInt8:=[102,117,110,99,32]
def j4 (f:Fc):List UInt8:=qv++f.nm++[40]++dI [44,32] f.ps++[41,32]++eM 0 (bF f.body 1)++[10]
def iZ (p:Pg):List UInt8:=p.vs.flatMap j3++p.fs.flatMap j4
end
end Go.Proofs.YtddomeddabfinaaGreatDoor
