/-
  Parts of the proof: PrB PrC PrD.
-/
import Derived.Test.YtddomeddabfinaaGreatDoorTu00
import Derived.Lib.AppendIntMem
import Derived.Test.YtddomeddabfinaaGreatDoorTu10
import Derived.Test.YtddomeddabfinaaGreatDoorTu11
import Derived.Test.YtddomeddabfinaaGreatDoorTu12
set_option maxRecDepth 100000
set_option maxHeartbeats 8000000
set_option linter.unusedVariables false
set_option linter.unusedSimpArgs false
set_option linter.unusedSectionVars false
namespace Go.Proofs.YtddomeddabfinaaGreatDoor
open Go.Proofs.Tryz
section
open Go.RowKit
def bT (sep:List UInt8):List (List UInt8)->List UInt8
 | []=>[]
 |x::r=>x++r.flatMap (fun y=>sep++y)
theorem kr (sep:List UInt8) (l:List (List UInt8)) (x:List UInt8):bT sep (l++[x])=bT sep l++((if l=[]then[]else sep)++x):=by
 cases l with
 |nil=>simp[bT]
 |cons y r=>simp[bT]
def g_ (b:Bool) (s:List UInt8):List UInt8:=if b then 40::(s++[41])else s
def qI (k:Int) (op nm tx:List UInt8) (v:Int) (ps:List Int) (ss:List (List UInt8)):List UInt8:=
 if k=1 then eD v.toNat
 else if k=2 then gJ tx
 else if k=3 then nm
 else if k=4 then nm++[91]++ss.headD []++[93]
 else if k=5 then nm++[40]++bT [44,32] ss++[41]
 else if k=6 then op++g_ (decide (ps.headD 0<7)) (ss.headD [])
 else if k=7 then g_ (decide (ps.headD 0<gL op)) (ss.headD [])++([32]++op++[32])++g_ (decide (ps.tail.headD 0<=gL op)) (ss.tail.headD [])
 else[]
mutual
def aY:Ex->List UInt8| .mk k op nm tx v a=>qI k op nm tx v (a.map Ex.prec) (cU a)
def cU:List Ex->List (List UInt8)| []=>[]|x::r=>aY x::cU r
end
theorem gD: ∀l,cU l=l.map aY
 | []=>rfl
 |x::r=>by rw[cU,gD r];rfl
theorem vV: ∀n,Lib.decDigits n=eD n:=fun n=>by
 induction n using Nat.strongRecOn with
 | _ n ih=>
  rw[Lib.decDigits,eD];split
  ·rfl
  ·rw[ih (n/10) (by omega)]
theorem qU (l:List UInt8):(gJ l).length<=2*l.length+2:=by
 have:=(eK l).2;simp only[gJ,ac,aa,ah];omega
theorem p_ {v:Int} (h:v<=2147483647):(eD v.toNat).length<=10:=jI 9 v.toNat (by omega)
theorem lW (b:Bool) (s:List UInt8):(g_ b s).length<=s.length+2:=by
 cases b<;>simp[g_]
theorem nP (sep:List UInt8): ∀l:List (List UInt8),(bT sep l).length<=(l.map fun s=>s.length+sep.length).sum
 | []=>by simp[bT]
 |x::r=>by
  have:(r.flatMap fun y=>sep++y).length=(r.map fun s=>s.length+sep.length).sum:=by
   rw[gc]
   congr 1
   apply List.map_congr_left;intro y _;simp;omega
  simp only[bT,aa,bI,eO,this];omega
theorem d8 {P:Nat->Prop} {a b c:World} (h:cP P a b) (k:cP P b c):cP P a c:=⟨a_ h.1 k.1,fun x hP hx=>(k.2 x hP (aF hx h.1)).trans (h.2 x hP hx)⟩
def dn (w:World) (b:Nat):Prop:=Lib.TabIs prog w "internal/strconv.uint64pow10" .u64 Lib.pow10Tab/\2<b
theorem dn.fb {w w':World} {b:Nat} (h:dn w b) (hF:FB b w w'):dn w' b:=by
 refine⟨?_,h.2⟩;have h1:=h.1;have hg:prog.globalNamed "internal/strconv.uint64pow10" =some 2:=by kernel_rfl
 have hb:=hF.below.block _ h.2;unfold Lib.TabIs World.var? at h1⊢;rw[hg]at h1⊢;simp only[dY]at h1⊢;rw[hb];exact h1
theorem pV (n:Int) (h0:0<=n) (h1:n<=9223372036854775807) (w:World) (b:Nat) (ht:dn w b):Calls prog 92 #[.int .i64 n] w fun e w'=>e= .returned (.string (ag (eD n.toNat)))/\au w w':=by
 refine(Tryz.strconv_Itoa n (by omega) h1 w ht.1).mono ?_;rintro e w' ⟨rfl,k,os,rfl⟩;have:Lib.itoa n=eD n.toNat:=by unfold Lib.itoa;rw[if_neg (by omega),vV]
 rw[this];exact⟨rfl,Lib.below_grow _ w (an _) k os⟩
structure PC (b px:Nat) (w0:World) (P:Nat->Prop) (t:TypeId) (cs:Array Value) (v:Value) (xs:List Ex) (l:List UInt8) (W:World):Prop where
 box:aO W px t cs
 bu:Bu W b l
 rd:b8 W P v xs
 fb:FB b w0 W
 tab:dn W b
 ne:px≠b
 tt:t≠5
 hP: ∀k,P k->k<b
section
variable {b px:Nat} {w0 W W':World} {P:Nat->Prop} {t:TypeId} {cs:Array Value} {v:Value} {xs:List Ex} {l l':List UInt8}
theorem PC.wr (h:PC b px w0 P t cs v xs l W) (hB:Bu W' b l') (hF:FB b W W'):PC b px w0 P t cs v xs l' W':=
 ⟨hF.keep _ _ _ h.ne h.tt h.box,hB,h.rd.keep (hF.keepP h.hP) (fun _ hb _=>hb),h.fb.trans hF,h.tab.fb hF,h.ne,h.tt,h.hP⟩
theorem PC.ex (h:PC b px w0 P t cs v xs l W) (hE:au W W'):PC b px w0 P t cs v xs l W':=h.wr (h.bu.ext hE) (aX hE (aI h.bu.lt))
end
theorem kJ {b:Nat} {w w':World} (h:FB b w.drew w'):FB b w w':=⟨⟨h.below.os,h.below.tape,h.below.output,h.below.size,h.below.block⟩,h.keep⟩
section
variable {P:Program} {ops:Array Oper} {Q:Exit->Act->World->Prop}
theorem gg {id:Nat} {a:Act} {w:World} (b m f:Nat) (l:List tS) (x:Nat) (hm:P.follows .mixedOrders=true) (hok:zM ops m a.tmps.size=true) (hbw:b<=w.heap.size)
  (hs:jv au l) (hx:nA x (fun a c=>b<=a.heap.size->FB b a c) l)
  (h:d_ P Q ops f (ei l) (some x) (fun _=>false) au (fun a c=>b<=a.heap.size->FB b a c) w.drew (fun a Φ=> ∀w',FB b w w'->(∀p∈Φ,p.2 w')->wpList P ops Q (ops.toList.drop m) a w') (ops.toList.take m) 0 a []):(Code.region id ops true).wp P Q a w:=by
 refine gz m f (ei l) (some x) au (fun a c=>b<=a.heap.size->FB b a c) hm hok aH (fun a c d h1 h2 ha=>(h1 ha).trans (h2 (a_ ha (h1 ha).below.size))) (fun a c h ha=>aX h ha) (fun _ _ _=>au.trans) hs.out hx.out ?_;refine d_.fin (fun a Φ h w' h1 h2=>h w' ?_ h2) _ _ _ _ h;have h3:=h1 hbw;exact⟨⟨h3.below.os,h3.below.tape,h3.below.output,h3.below.size,h3.below.block⟩,h3.keep⟩
end
def lJ (x:Ex):Prop:= ∀(P:Nat->Prop) (w:World) (A:Option Addr) (n c b:Nat) (l:List UInt8),b8 w P (.slice A n c) x.args->(∀k,P k->k<b)->dn w b->Bu w b l->l.length+(aY x).length<=1000000000->
 Calls prog 201 #[.pointer (some ⟨b,0,none⟩), .agg #[.int .i64 x.k, .string (ag x.op), .string (ag x.nm), .string (ag x.tx), .int .i64 x.v, .slice A n c]] w fun e w'=>e= .returned (.tuple #[])/\Bu w' b (l++aY x)/\FB b w w'
theorem oD (x:Ex) (hx:lJ x) (pb:Bool) (P:Nat->Prop) (w:World) (A:Option Addr) (n c b:Nat) (l:List UInt8) (hR:b8 w P (.slice A n c) x.args) (hP: ∀k,P k->k<b) (hT:dn w b) (hB:Bu w b l) (hl:l.length+(g_ pb (aY x)).length<=1000000000):
  Calls prog 216 #[.pointer (some ⟨b,0,none⟩), .agg #[.int .i64 x.k, .string (ag x.op), .string (ag x.nm), .string (ag x.tx), .int .i64 x.v, .slice A n c], .bool pb] w fun e w'=>e= .returned (.tuple #[])/\Bu w' b (l++g_ pb (aY x))/\FB b w w':=by
 have HX:=G hx;clear hx;unfold lJ at HX;generalize aY x=S at*;generalize hargs:x.args=xs at*;generalize x.k=k at*;generalize x.op=op at*;generalize x.nm=nm at*;generalize x.tx=tx at*;generalize x.v=v at*;have HC0:=G (show PC b w.heap.size w P 70 #[.int .i64 k, .string (ag op), .string (ag nm), .string (ag tx), .int .i64 v, .slice A n c] (.slice A n c) xs l _ from⟨ax w 70 #[.int .i64 k, .string (ag op), .string (ag nm), .string (ag tx), .int .i64 v, .slice A n c],hB.ext (O w _),hR.keep (.of_ext (O w _)) (fun _ hb _=>hb),aX (O w _) (aI hB.lt),hT.fb (aX (O w _) (aI hB.lt)),bC hB.lt,by decide,hP⟩);have hbc:=HC0.out.box.cell;clear hB hR hT
 cases pb with
 |true=>
  have hl:l.length+(S.length+2)<=1000000000:=by simpa[g_]using hl
  go_enter func216,ntmps216;go_wp2_with (first|(go_at_call 91;refine(cf b l [40] _ HC0.out.bu (by simp only[ac,ah];omega)).mono ?_;rintro e u1 ⟨rfl,h1,h2⟩;have HC1:=G (HC0.out.wr h1 h2);clear h1 h2 HC0;clear hbc;have hbc:=HC1.out.box.cell)|(go_at_call 201;refine(HX.out P _ A n c b (l++[40]) HC1.out.rd hP HC1.out.tab HC1.out.bu (by simp only[aa,ac,ah];omega)).mono ?_;rintro e u2 ⟨rfl,h1,h2⟩;have HC2:=G (HC1.out.wr h1 h2);clear h1 h2 HC1)|(go_at_call 91;refine(cf b (l++[40]++S) [41] _ HC2.out.bu (by simp only[aa,ac,ah];omega)).mono ?_;rintro e u3 ⟨rfl,h1,h2⟩;have HC3:=G (HC2.out.wr h1 h2);clear h1 h2 HC2))
  go_end0
  exact⟨rfl,by have:=HC3.out.bu;simpa[g_,aA]using this,HC3.out.fb⟩
 |false=>
  have hl:l.length+S.length<=1000000000:=hl;go_enter func216,ntmps216;go_wp2_with (go_at_call 201;refine(HX.out P _ A n c b l HC0.out.rd hP HC0.out.tab HC0.out.bu (by omega)).mono ?_;rintro e u2 ⟨rfl,h1,h2⟩;have HC2:=G (HC0.out.wr h1 h2);clear h1 h2 HC0)
  go_end0
  exact⟨rfl,HC2.out.bu,HC2.out.fb⟩
theorem Cd (op nm tx:List UInt8) (v:Int) (xs:List Ex) (h0:0<=v) (h1:v<=2147483647) (P:Nat->Prop) (w:World) (A:Option Addr) (n c b:Nat) (l:List UInt8) (hR:b8 w P (.slice A n c) xs) (hP: ∀k,P k->k<b) (hT:dn w b) (hB:Bu w b l) (S:List UInt8) (hS:aY (.mk 1 op nm tx v xs)=S) (hl:l.length+S.length<=1000000000):
  Calls prog 201 #[.pointer (some ⟨b,0,none⟩), .agg #[.int .i64 1, .string (ag op), .string (ag nm), .string (ag tx), .int .i64 v, .slice A n c]] w fun e w'=>e= .returned (.tuple #[])/\Bu w' b (l++S)/\FB b w w':=by
 have HS:=G (show eD v.toNat=S from by rw[<-hS];rfl);have hlen:(eD v.toNat).length=S.length:=by rw[HS.out]
 clear hS;have HC0:=G (show PC b w.heap.size w P 70 #[.int .i64 1, .string (ag op), .string (ag nm), .string (ag tx), .int .i64 v, .slice A n c] (.slice A n c) xs l _ from⟨ax w 70 #[.int .i64 1, .string (ag op), .string (ag nm), .string (ag tx), .int .i64 v, .slice A n c],hB.ext (O w _),hR.keep (.of_ext (O w _)) (fun _ hb _=>hb),aX (O w _) (aI hB.lt),hT.fb (aX (O w _) (aI hB.lt)),bC hB.lt,by decide,hP⟩);have hbc:=HC0.out.box.cell;clear hB hR hT;have HIt:=G (fun w h=>pV v h0 (by omega) w b h);generalize eD v.toNat=D at*;go_enter func201,ntmps201;go_wp2_with fail;refine am 6 3 [(5,fun x=>x= .string (ag D),fun _ _=>True)] mixed (by kernel_rfl) ⟨fun _ _ _ _ _=>trivial,trivial⟩ ?_;repeat (refine sx ?_ (fun w1 hU=> ?_) ?_;rotate_left;(focus have f1:=(HC0.out.ex hU.un).box.cell;clear hU;go_simp<;>with_reducible rfl);simp only[aU,aT,aS,aR,aQ])
 refine so (fun w6 hU hp K hK=> ?_) ?_
 ·have hT6:=(HC0.out.ex hU.un).tab;clear hp hU;go_simp;refine(HIt.out w6 hT6).mono ?_;rintro e w7 ⟨rfl,hE⟩;exact hK _ _ hE rfl trivial
 rintro _ rfl;simp only[aU,aT,aS,aR,aQ];repeat (refine sx ?_ (fun w1 hU=> ?_) ?_;rotate_left;(focus have f1:=(HC0.out.ex hU.un).box.cell;clear hU;go_simp<;>with_reducible rfl);simp only[aU,aT,aS,aR,aQ])
 intro z1 hz1 hp;clear hp;simp only[ab,ap];have HC1:=G (HC0.out.ex hz1.un);clear hz1 hbc HC0;have hbc:=HC1.out.box.cell;go_wp2_with ((go_at_call 91;refine(cf b l D _ HC1.out.bu (by omega)).mono ?_;rintro e u2 ⟨rfl,h1,h2⟩;have HC2:=G (HC1.out.wr h1 h2);clear h1 h2 HC1))
 go_end0
 exact⟨rfl,by rw[<-HS.out];have:=HC2.out.bu;exact this,HC2.out.fb⟩
theorem Cc (op nm tx:List UInt8) (v:Int) (xs:List Ex) (h0:tx.length<=128) (P:Nat->Prop) (w:World) (A:Option Addr) (n c b:Nat) (l:List UInt8) (hR:b8 w P (.slice A n c) xs) (hP: ∀k,P k->k<b) (hT:dn w b) (hB:Bu w b l) (S:List UInt8) (hS:aY (.mk 2 op nm tx v xs)=S) (hl:l.length+S.length<=1000000000):
  Calls prog 201 #[.pointer (some ⟨b,0,none⟩), .agg #[.int .i64 2, .string (ag op), .string (ag nm), .string (ag tx), .int .i64 v, .slice A n c]] w fun e w'=>e= .returned (.tuple #[])/\Bu w' b (l++S)/\FB b w w':=by
 have HS:=G (show gJ tx=S from by rw[<-hS];rfl);have hlen:(gJ tx).length=S.length:=by rw[HS.out]
 clear hS;have HC0:=G (show PC b w.heap.size w P 70 #[.int .i64 2, .string (ag op), .string (ag nm), .string (ag tx), .int .i64 v, .slice A n c] (.slice A n c) xs l _ from⟨ax w 70 #[.int .i64 2, .string (ag op), .string (ag nm), .string (ag tx), .int .i64 v, .slice A n c],hB.ext (O w _),hR.keep (.of_ext (O w _)) (fun _ hb _=>hb),aX (O w _) (aI hB.lt),hT.fb (aX (O w _) (aI hB.lt)),bC hB.lt,by decide,hP⟩);have hbc:=HC0.out.box.cell;clear hB hR hT;have HIt:=G (fun w=>sZ tx (by omega) w);generalize gJ tx=D at*;go_enter func201,ntmps201;go_wp2_with fail;refine am 6 3 [(5,fun x=>x= .string (ag D),fun _ _=>True)] mixed (by kernel_rfl) ⟨fun _ _ _ _ _=>trivial,trivial⟩ ?_;repeat (refine sx ?_ (fun w1 hU=> ?_) ?_;rotate_left;(focus have f1:=(HC0.out.ex hU.un).box.cell;clear hU;go_simp<;>with_reducible rfl);simp only[aU,aT,aS,aR,aQ])
 refine so (fun w6 hU hp K hK=> ?_) ?_
 ·have hT6:=(HC0.out.ex hU.un).tab;clear hp hU;go_simp;refine(HIt.out w6).mono ?_;rintro e w7 ⟨rfl,hE⟩;exact hK _ _ hE rfl trivial
 rintro _ rfl;simp only[aU,aT,aS,aR,aQ];repeat (refine sx ?_ (fun w1 hU=> ?_) ?_;rotate_left;(focus have f1:=(HC0.out.ex hU.un).box.cell;clear hU;go_simp<;>with_reducible rfl);simp only[aU,aT,aS,aR,aQ])
 intro z1 hz1 hp;clear hp;simp only[ab,ap];have HC1:=G (HC0.out.ex hz1.un);clear hz1 hbc HC0;have hbc:=HC1.out.box.cell;go_wp2_with ((go_at_call 91;refine(cf b l D _ HC1.out.bu (by omega)).mono ?_;rintro e u2 ⟨rfl,h1,h2⟩;have HC2:=G (HC1.out.wr h1 h2);clear h1 h2 HC1))
 go_end0
 exact⟨rfl,by rw[<-HS.out];have:=HC2.out.bu;exact this,HC2.out.fb⟩
theorem Cb (op nm tx:List UInt8) (v:Int) (xs:List Ex) (P:Nat->Prop) (w:World) (A:Option Addr) (n c b:Nat) (l:List UInt8) (hR:b8 w P (.slice A n c) xs) (hP: ∀k,P k->k<b) (hT:dn w b) (hB:Bu w b l) (S:List UInt8) (hS:aY (.mk 3 op nm tx v xs)=S) (hl:l.length+S.length<=1000000000):
  Calls prog 201 #[.pointer (some ⟨b,0,none⟩), .agg #[.int .i64 3, .string (ag op), .string (ag nm), .string (ag tx), .int .i64 v, .slice A n c]] w fun e w'=>e= .returned (.tuple #[])/\Bu w' b (l++S)/\FB b w w':=by
 have HS:=G (show nm=S from by rw[<-hS];rfl);have hlen:nm.length=S.length:=by rw[HS.out]
 clear hS;have HC0:=G (show PC b w.heap.size w P 70 #[.int .i64 3, .string (ag op), .string (ag nm), .string (ag tx), .int .i64 v, .slice A n c] (.slice A n c) xs l _ from⟨ax w 70 #[.int .i64 3, .string (ag op), .string (ag nm), .string (ag tx), .int .i64 v, .slice A n c],hB.ext (O w _),hR.keep (.of_ext (O w _)) (fun _ hb _=>hb),aX (O w _) (aI hB.lt),hT.fb (aX (O w _) (aI hB.lt)),bC hB.lt,by decide,hP⟩);have hbc:=HC0.out.box.cell;clear hB hR hT;go_enter func201,ntmps201;go_wp2_with fail;refine am 5 3 [] mixed (by kernel_rfl) trivial ?_;repeat (refine sx ?_ (fun w1 hU=> ?_) ?_;rotate_left;(focus have f1:=(HC0.out.ex hU.un).box.cell;clear hU;go_simp<;>with_reducible rfl);simp only[aU,aT,aS,aR,aQ])
 intro z1 hz1 hp;clear hp;simp only[ab,ap];have HC1:=G (HC0.out.ex hz1.un);clear hz1 hbc HC0;have hbc:=HC1.out.box.cell;go_wp2_with ((go_at_call 91;refine(cf b l nm _ HC1.out.bu (by omega)).mono ?_;rintro e u2 ⟨rfl,h1,h2⟩;have HC2:=G (HC1.out.wr h1 h2);clear h1 h2 HC1))
 go_end0
 exact⟨rfl,by rw[<-HS.out];have:=HC2.out.bu;exact this,HC2.out.fb⟩
theorem Ca (op nm tx:List UInt8) (v:Int) (y:Ex) (hy:lJ y) (P:Nat->Prop) (w:World) (A:Option Addr) (n c b:Nat) (l:List UInt8) (hR:b8 w P (.slice A n c) [y]) (hP: ∀k,P k->k<b) (hT:dn w b) (hB:Bu w b l) (S:List UInt8) (hS:aY (.mk 4 op nm tx v [y])=S) (hl:l.length+S.length<=1000000000):
  Calls prog 201 #[.pointer (some ⟨b,0,none⟩), .agg #[.int .i64 4, .string (ag op), .string (ag nm), .string (ag tx), .int .i64 v, .slice A n c]] w fun e w'=>e= .returned (.tuple #[])/\Bu w' b (l++S)/\FB b w w':=by
 have hn:=hR.len;have HX:=G hy;unfold lJ at HX;have HS:=G (show nm++[91]++aY y++[93]=S from by rw[<-hS];rfl);have hlen:nm.length+1+(aY y).length+1=S.length:=by rw[<-HS.out];simp only[aa,ac,ah]
 clear hS hy;simp only[ac,ah]at hn;obtain rfl:n=1:=hn;obtain⟨b0,o0,a0,hA0,hb0,hP0,y00,y10,y20,y30,y40,y50,hRy0⟩:=hR.at_ 0 (by simp);simp only[aE,aK,aW,bg,bM]at y00 y10 y20 y30 y40 y50 hRy0;obtain⟨B0,d0,rfl,_⟩:=hRy0.form;have HY0:=G (aq y00 (aq y10 (aq y20 (aq y30 (aq y40 y50)))));have HRy0:=G hRy0;clear y00 y10 y20 y30 y40 y50 hRy0;have HC0:=G (show PC b w.heap.size w P 70 #[.int .i64 4, .string (ag op), .string (ag nm), .string (ag tx), .int .i64 v, .slice A 1 c] (.slice A 1 c) [y] l _ from⟨ax w 70 #[.int .i64 4, .string (ag op), .string (ag nm), .string (ag tx), .int .i64 v, .slice A 1 c],hB.ext (O w _),hR.keep (.of_ext (O w _)) (fun _ hb _=>hb),aX (O w _) (aI hB.lt),hT.fb (aX (O w _) (aI hB.lt)),bC hB.lt,by decide,hP⟩);have hbc:=HC0.out.box.cell;clear hB hR hT;obtain⟨c1,Hc1⟩: ∃c,Hid (nm++[91]=c):=⟨_,G rfl⟩
 have hzc1:c1.length=nm.length+1:=by rw[<-Hc1.out,aa];rfl
 have hsc1:ag nm++(⟨#[91]⟩:ByteArray)=ag c1:=by rw[<-Hc1.out];exact cd _ _
 have hmc1: ¬9223372036854775807<nm.length+1:=by omega
 have hkc1: ¬9223372036854775807<1+nm.length:=by omega
 have hqc1nm:(ag nm).size=nm.length:=aL _;have hqc1l:((⟨#[91]⟩:ByteArray)).size=1:=rfl;subst hA0;generalize aY y=Sy at*;go_enter func201,ntmps201;go_wp2_with fail;refine am 6 3 [] mixed (by kernel_rfl) trivial ?_;repeat (refine sx ?_ (fun w1 hU=> ?_) ?_;rotate_left;(focus have f1:=(HC0.out.ex hU.un).box.cell;clear hU;go_simp<;>with_reducible rfl);simp only[aU,aT,aS,aR,aQ])
 intro z1 hz1 hp;clear hp;simp only[ab,ap];have HC1:=G (HC0.out.ex hz1.un);clear hz1 hbc HC0;have hbc:=HC1.out.box.cell;go_wp2_with (first|(go_at_call 91;refine(cf b l c1 _ HC1.out.bu (by omega)).mono ?_;rintro e u2 ⟨rfl,h1,h2⟩;have HC2:=G (HC1.out.wr h1 h2);clear h1 h2 HC1;clear hbc;have hbc:=HC2.out.box.cell;have e0:=(HC2.out.fb.keepP hP).cell (o0) hP0 hb0|>.trans HY0.out.1;have e1:=(HC2.out.fb.keepP hP).cell (o0+1) hP0 hb0|>.trans HY0.out.2.1;have e2:=(HC2.out.fb.keepP hP).cell (o0+2) hP0 hb0|>.trans HY0.out.2.2.1;have e3:=(HC2.out.fb.keepP hP).cell (o0+3) hP0 hb0|>.trans HY0.out.2.2.2.1;have e4:=(HC2.out.fb.keepP hP).cell (o0+4) hP0 hb0|>.trans HY0.out.2.2.2.2.1;have e5:=(HC2.out.fb.keepP hP).cell (o0+5) hP0 hb0|>.trans HY0.out.2.2.2.2.2)|(go_at_call 201;refine(HX.out P _ B0 _ d0 b (l++c1) (HRy0.out.keep (HC2.out.fb.keepP hP) (fun _ hb _=>hb)) hP HC2.out.tab HC2.out.bu (by simp only[aa];omega)).mono ?_;rintro e u3 ⟨rfl,h1,h2⟩;have HC3:=G (HC2.out.wr h1 h2);clear h1 h2 HC2;clear e0 e1 e2 e3 e4 e5)|(go_at_call 91;refine(cf b (l++c1++Sy) [93] _ HC3.out.bu (by simp only[aa,ac,ah];omega)).mono ?_;rintro e u4 ⟨rfl,h1,h2⟩;have HC4:=G (HC3.out.wr h1 h2);clear h1 h2 HC3))
 go_end0
 exact⟨rfl,by rw[<-HS.out];have:=HC4.out.bu;rw[<-Hc1.out]at this;simpa[aA]using this,HC4.out.fb⟩
theorem B_ (op nm tx:List UInt8) (v:Int) (xs:List Ex) (hx: ∀y,y∈xs->lJ y) (h4:xs.length<=4) (P:Nat->Prop) (w:World) (A:Option Addr) (n c b:Nat) (l:List UInt8) (hR:b8 w P (.slice A n c) xs) (hP: ∀k,P k->k<b) (hT:dn w b) (hB:Bu w b l) (S:List UInt8) (hS:aY (.mk 5 op nm tx v xs)=S) (hl:l.length+S.length<=1000000000):
  Calls prog 201 #[.pointer (some ⟨b,0,none⟩), .agg #[.int .i64 5, .string (ag op), .string (ag nm), .string (ag tx), .int .i64 v, .slice A n c]] w fun e w'=>e= .returned (.tuple #[])/\Bu w' b (l++S)/\FB b w w':=by
 have hn:=hR.len;have HX:=G hx;have HS:=G (show nm++[40]++bT [44,32] (cU xs)++[41]=S from by rw[<-hS];rfl);have hlen:nm.length+1+(bT [44,32] (cU xs)).length+1=S.length:=by rw[<-HS.out];simp only[aa,ac,ah]
 have HN:=G hn;have hn4:(n:Int)<=4:=by omega
 clear hS hx hn;have HC0:=G (show PC b w.heap.size w P 70 #[.int .i64 5, .string (ag op), .string (ag nm), .string (ag tx), .int .i64 v, .slice A n c] (.slice A n c) xs l _ from⟨ax w 70 #[.int .i64 5, .string (ag op), .string (ag nm), .string (ag tx), .int .i64 v, .slice A n c],hB.ext (O w _),hR.keep (.of_ext (O w _)) (fun _ hb _=>hb),aX (O w _) (aI hB.lt),hT.fb (aX (O w _) (aI hB.lt)),bC hB.lt,by decide,hP⟩);have hbc:=HC0.out.box.cell;clear hB hR hT;obtain⟨c1,Hc1⟩: ∃c,Hid (nm++[40]=c):=⟨_,G rfl⟩
 have hzc1:c1.length=nm.length+1:=by rw[<-Hc1.out,aa];rfl
 have hsc1:ag nm++(⟨#[40]⟩:ByteArray)=ag c1:=by rw[<-Hc1.out];exact cd _ _
 have hmc1: ¬9223372036854775807<nm.length+1:=by omega
 have hkc1: ¬9223372036854775807<1+nm.length:=by omega
 have hqc1nm:(ag nm).size=nm.length:=aL _;have hqc1l:((⟨#[40]⟩:ByteArray)).size=1:=rfl;go_enter func201,ntmps201;go_wp2_with fail;refine am 6 3 [] mixed (by kernel_rfl) trivial ?_;repeat (refine sx ?_ (fun w1 hU=> ?_) ?_;rotate_left;(focus have f1:=(HC0.out.ex hU.un).box.cell;clear hU;go_simp<;>with_reducible rfl);simp only[aU,aT,aS,aR,aQ])
 intro z1 hz1 hp;clear hp;simp only[ab,ap];have HC1:=G (HC0.out.ex hz1.un);clear hz1 hbc HC0;have hbc:=HC1.out.box.cell;go_wp2_with ((go_at_call 91;refine(cf b l c1 _ HC1.out.bu (by omega)).mono ?_;rintro e u2 ⟨rfl,h1,h2⟩;have HC2:=G (HC1.out.wr h1 h2);clear h1 h2 HC1;clear hbc;have hbc:=HC2.out.box.cell));clear hbc
 go_loopw [66] (fun vi wr=> ∃j:Nat,vi= .int .i64 (j:Int)/\j<=n/\Hid (PC b w.heap.size w P 70 #[.int .i64 5, .string (ag op), .string (ag nm), .string (ag tx), .int .i64 v, .slice A n c] (.slice A n c) xs (l++c1++bT [44,32] ((cU xs).take j)) wr)) (fun vi _=>n-(intOf vi).toNat)
 case atStart=>exact⟨0,rfl,az _,by simpa[bT]using HC2⟩
 case round=>
  clear HC2;obtain⟨j,rfl,hj,HCr⟩:=hrel;by_cases hlt:j<n
  ·have hlt':(j:Int)<n:=by omega
   have hjl:j<xs.length:=by have:=HN.out;omega
   obtain⟨bj,oj,aj,rfl,hbj,hPj,e0,e1,e2,e3,e4,e5,hRy⟩:=HCr.out.rd.at_ j hjl;have HXy:=G (HX.out _ (ai hjl));have hsl:(cU xs).length=xs.length:=by rw[gD];simp
   have hsj:(cU xs)[j]'(by omega)=aY xs[j]:=by simp[gD]
   have HT:=G (show bT [44,32] ((cU xs).take (j+1))=bT [44,32] ((cU xs).take j)++((if(cU xs).take j=[]then[]else[44,32])++aY xs[j])from by rw[aD (by omega),kr,hsj]);have hbd:(bT [44,32] ((cU xs).take (j+1))).length<=(bT [44,32] (cU xs)).length:=by
    have:cU xs=(cU xs).take (j+1)++(cU xs).drop (j+1):=(bB _ _).symm
    conv=>rhs;rw[this]
    cases h:(cU xs).take (j+1)with
    |nil=>simp[bT]
    |cons a r=>simp[bT]
   have hte:((cU xs).take j=[])↔j=0:=by
    rw[fP];constructor
    ·rintro(h|h)
     ·exact h
     ·rw[h]at hsl;simp at hsl;omega
    ·exact fun h=> .inl h
   generalize xs[j]=y at*;unfold lJ at HXy;obtain⟨By,dy,rfl,_⟩:=hRy.form;have HRy:=G hRy;have hey:y.args.length=y.args.length:=rfl;have hsz:=HCr.out.bu.lt;have HC1:=G (HCr.out.ex (O _ (.cells #[.int .i64 y.k, .string (ag y.op), .string (ag y.nm), .string (ag y.tx), .int .i64 y.v, .slice By y.args.length dy] 70)));have HYB:=G (ax wr 70 #[.int .i64 y.k, .string (ag y.op), .string (ag y.nm), .string (ag y.tx), .int .i64 y.v, .slice By y.args.length dy]);have hpy:wr.heap.size≠b:=by omega
   have HRz:=G (hRy.keep (.of_ext (O wr (.cells #[.int .i64 y.k, .string (ag y.op), .string (ag y.nm), .string (ag y.tx), .int .i64 y.v, .slice By y.args.length dy] 70))) (fun _ hb _=>hb));generalize bT [44,32] ((cU xs).take j)=J at*;generalize hJ1:bT [44,32] ((cU xs).take (j+1))=J1 at*;have hJl:=congrArg List.length HT.out;simp only[aa]at hJl;generalize aY y=Sy at*;clear hRy hsl hsj HRy hey;by_cases hj0:j=0
   ·subst hj0;simp only[aW,bg]at e0 e1 e2 e3 e4 e5;rw[if_pos (hte.2 rfl)]at HT hJl;simp only[ah]at hJl;clear hte;go_wp2_with (go_at_call 201;refine(HXy.out P _ By _ dy b (l++c1++J) HRz.out hP HC1.out.tab HC1.out.bu (by simp only[aa];omega)).mono ?_;rintro e u3 ⟨rfl,h1,h2⟩;have HC3:=G (HC1.out.wr h1 h2);clear h1 h2 HC1);go_roundw
    case rel=>exact⟨1,rfl,by omega,by have:=HT.out;rw[show bT [44,32] (List.take 1 (cU xs))=J1 from hJ1,this];simpa[aA]using HC3⟩
    case measure=>simp[intOf];omega
   ·have hj1:(0:Int)<j:=by omega
    have hj2:0<j:=by omega
    rw[if_neg (fun h=>hj0 (hte.1 h))]at HT hJl;simp only[ac,ah]at hJl;clear hte;have hyc:=HYB.out.cell;go_wp2_with (first|(go_at_call 91;refine(cf b (l++c1++J) [44,32] _ HC1.out.bu (by simp only[aa,ac,ah];omega)).mono ?_;rintro e u2 ⟨rfl,h1,h2⟩;have HC2:=G (HC1.out.wr h1 h2);have HYB2:=G (h2.keep _ _ _ hpy (by decide) HYB.out);have hyc2:=HYB2.out.cell;have HRw:=G (HRz.out.keep (h2.keepP hP) (fun _ hb _=>hb));clear h1 h2 HC1;clear hyc)|(go_at_call 201;refine(HXy.out P _ By _ dy b (l++c1++J++[44,32]) HRw.out hP HC2.out.tab HC2.out.bu (by simp only[aa,ac,ah];omega)).mono ?_;rintro e u3 ⟨rfl,h1,h2⟩;have HC3:=G (HC2.out.wr h1 h2);clear h1 h2 HC2));go_roundw
    case rel=>exact⟨j+1,by go_num,by omega,by have:=HT.out;rw[hJ1,this];simpa[aA]using HC3⟩
    case measure=>simp[intOf];omega
  ·have hlt': ¬(j:Int)<n:=by omega
   have hjn:j=n:=by omega
   have HQ:=G (show(cU xs).take j=cU xs from by rw[hjn,HN.out,aJ (by rw[gD];simp)]);rw[HQ.out]at HCr;generalize bT [44,32] (cU xs)=J at*;clear HQ;go_wp2_with ((go_at_call 91;refine(cf b (l++c1++J) [41] _ HCr.out.bu (by simp only[aa,ac,ah];omega)).mono ?_;rintro e ue ⟨rfl,h1,h2⟩;have HCe:=G (HCr.out.wr h1 h2);clear h1 h2 HCr))
   go_end0
   exact⟨rfl,by rw[<-HS.out];have:=HCe.out.bu;rw[<-Hc1.out]at this;simpa[aA]using this,HCe.out.fb⟩
theorem B9 (op nm tx:List UInt8) (v:Int) (y:Ex) (hy:lJ y) (P:Nat->Prop) (w:World) (A:Option Addr) (n c b:Nat) (l:List UInt8) (hR:b8 w P (.slice A n c) [y]) (hP: ∀k,P k->k<b) (hT:dn w b) (hB:Bu w b l) (S:List UInt8) (hS:aY (.mk 6 op nm tx v [y])=S) (hl:l.length+S.length<=1000000000):
  Calls prog 201 #[.pointer (some ⟨b,0,none⟩), .agg #[.int .i64 6, .string (ag op), .string (ag nm), .string (ag tx), .int .i64 v, .slice A n c]] w fun e w'=>e= .returned (.tuple #[])/\Bu w' b (l++S)/\FB b w w':=by
 have hn:=hR.len;have HS:=G (show op++g_ (decide (y.prec<7)) (aY y)=S from by rw[<-hS];rfl);have hpl:=lW (decide (y.prec<7)) (aY y);have hlen:op.length+(g_ (decide (y.prec<7)) (aY y)).length=S.length:=by rw[<-HS.out];simp only[aa]
 have hpg:(aY y).length<=(g_ (decide (y.prec<7)) (aY y)).length:=by unfold g_;split<;>simp<;>omega
 clear hS;simp only[ac,ah]at hn;obtain rfl:n=1:=hn;obtain⟨b0,o0,a0,hA0,hb0,hP0,y00,y10,y20,y30,y40,y50,hRy0⟩:=hR.at_ 0 (by simp);simp only[aE,aK,aW,bg,bM]at y00 y10 y20 y30 y40 y50 hRy0;obtain⟨B0,d0,rfl,_⟩:=hRy0.form;have HY0:=G (aq y00 (aq y10 (aq y20 (aq y30 (aq y40 y50)))));have HRy0:=G hRy0;clear y00 y10 y20 y30 y40 y50 hRy0;subst hA0;have HC0:=G (show PC b w.heap.size w P 70 #[.int .i64 6, .string (ag op), .string (ag nm), .string (ag tx), .int .i64 v, .slice (some ⟨b0,o0,none⟩) 1 c] (.slice (some ⟨b0,o0,none⟩) 1 c) [y] l _ from⟨ax w 70 #[.int .i64 6, .string (ag op), .string (ag nm), .string (ag tx), .int .i64 v, .slice (some ⟨b0,o0,none⟩) 1 c],hB.ext (O w _),hR.keep (.of_ext (O w _)) (fun _ hb _=>hb),aX (O w _) (aI hB.lt),hT.fb (aX (O w _) (aI hB.lt)),bC hB.lt,by decide,hP⟩);have hbc:=HC0.out.box.cell;clear hB hR hT;have HPR0:=G (fun w=>kE y w (.slice B0 y.args.length d0) ⟨_,_,_,rfl⟩);have HO0:=G (oD y hy);generalize y.prec=p0 at*;generalize aY y=Sy at*;clear hy;go_enter func201,ntmps201;go_wp2_with fail;refine am 5 3 [] mixed (by kernel_rfl) trivial ?_;repeat (refine sx ?_ (fun w1 hU=> ?_) ?_;rotate_left;(focus have f1:=(HC0.out.ex hU.un).box.cell;clear hU;go_simp<;>with_reducible rfl);simp only[aU,aT,aS,aR,aQ])
 intro z1 hz1 hp;clear hp;simp only[ab,ap];have HC1:=G (HC0.out.ex hz1.un);clear hz1 hbc HC0;have hbc:=HC1.out.box.cell;go_wp2_with ((go_at_call 91;refine(cf b l op _ HC1.out.bu (by omega)).mono ?_;rintro e u2 ⟨rfl,h1,h2⟩;have HC2:=G (HC1.out.wr h1 h2);clear h1 h2 HC1;clear hbc;have hbc:=HC2.out.box.cell));have hbw2:=aI HC2.out.bu.lt;clear hbc;refine gg b 12 8 [(9,fun x=>x= .int .i64 p0,fun _ _=>True),(11,fun x=>x= .tuple #[],fun _ wx=>Bu wx b (l++op++g_ (decide (p0<7)) Sy))] 11 mixed (by kernel_rfl) hbw2 ⟨fun _ _ _ _ _=>trivial,fun _ _ _ h hx=>h.ext hx,trivial⟩ ⟨.inr fun _ _ _ _ _=>trivial, .inl rfl,trivial⟩ ?_;repeat (refine sx ?_ (fun w1 hU=> ?_) ?_;rotate_left;(focus have hF:=kJ (hU hbw2);have f1:=(hF.keep _ _ _ HC2.out.ne HC2.out.tt HC2.out.box).cell;have hK:=d8 (HC2.out.fb.keepP hP) (hF.keepP hP);have e0:=(hK.cell (o0) hP0 hb0).trans HY0.out.1;have e1:=(hK.cell (o0+1) hP0 hb0).trans HY0.out.2.1;have e2:=(hK.cell (o0+2) hP0 hb0).trans HY0.out.2.2.1;have e3:=(hK.cell (o0+3) hP0 hb0).trans HY0.out.2.2.2.1;have e4:=(hK.cell (o0+4) hP0 hb0).trans HY0.out.2.2.2.2.1;have e5:=(hK.cell (o0+5) hP0 hb0).trans HY0.out.2.2.2.2.2;clear hF hK hU;go_simp<;>with_reducible rfl);simp only[aU,aT,aS,aR,aQ])
 refine so (fun w6 hU hp K hK=> ?_) ?_
 ·clear hp hU;go_simp;refine(HPR0.out w6).mono ?_;rintro e w7 ⟨rfl,hE⟩;exact hK _ _ hE rfl trivial
 rintro _ rfl;simp only[aU,aT,aS,aR,aQ];repeat (refine sx ?_ (fun w1 hU=> ?_) ?_;rotate_left;(focus have hF:=kJ (hU hbw2);have f1:=(hF.keep _ _ _ HC2.out.ne HC2.out.tt HC2.out.box).cell;have hK:=d8 (HC2.out.fb.keepP hP) (hF.keepP hP);have e0:=(hK.cell (o0) hP0 hb0).trans HY0.out.1;have e1:=(hK.cell (o0+1) hP0 hb0).trans HY0.out.2.1;have e2:=(hK.cell (o0+2) hP0 hb0).trans HY0.out.2.2.1;have e3:=(hK.cell (o0+3) hP0 hb0).trans HY0.out.2.2.2.1;have e4:=(hK.cell (o0+4) hP0 hb0).trans HY0.out.2.2.2.2.1;have e5:=(hK.cell (o0+5) hP0 hb0).trans HY0.out.2.2.2.2.2;clear hF hK hU;go_simp<;>with_reducible rfl);simp only[aU,aT,aS,aR,aQ])
 refine eQ _ _ (by rfl) rfl ⟨_,rfl⟩ rfl (fun w6 hT hp K hK=> ?_) ?_
 ·have HC6:=G (HC2.out.ex hT.un);have hR6:=HRy0.out.keep (d8 (HC2.out.fb.keepP hP) (.of_ext hT.un)) (fun _ hb _=>hb);have HR6:=G hR6;clear hp hT hR6;go_simp;refine(HO0.out (decide (p0<7)) P w6 B0 _ d0 b (l++op) HR6.out hP HC6.out.tab HC6.out.bu (by first|omega|(simp only[aa,ac,ah];omega))).mono ?_;rintro e w7 ⟨rfl,h1,h2⟩;exact hK _ _ (fun _=>h2) rfl h1
 rintro _ rfl;simp only[aU,aT,aS,aR,aQ];intro v3 hv hp;have HC3:=G (HC2.out.wr (hp _ (.head _)) hv);clear hv hp;simp only[ab,aG];have hbc:=HC3.out.box.cell;go_wp2_with fail
 go_end0
 exact⟨rfl,by rw[<-HS.out];have:=HC3.out.bu;simpa[aA]using this,HC3.out.fb⟩
theorem B8 (op nm tx:List UInt8) (v:Int) (y z:Ex) (hy:lJ y) (hz:lJ z) (P:Nat->Prop) (w:World) (A:Option Addr) (n c b:Nat) (l:List UInt8) (hR:b8 w P (.slice A n c) [y,z]) (hP: ∀k,P k->k<b) (hT:dn w b) (hB:Bu w b l) (S:List UInt8) (hS:aY (.mk 7 op nm tx v [y,z])=S) (hl:l.length+S.length<=1000000000):
  Calls prog 201 #[.pointer (some ⟨b,0,none⟩), .agg #[.int .i64 7, .string (ag op), .string (ag nm), .string (ag tx), .int .i64 v, .slice A n c]] w fun e w'=>e= .returned (.tuple #[])/\Bu w' b (l++S)/\FB b w w':=by
 have hn:=hR.len;have HS:=G (show g_ (decide (y.prec<gL op)) (aY y)++([32]++op++[32])++g_ (decide (z.prec<=gL op)) (aY z)=S from by rw[<-hS];rfl);have hlen:(g_ (decide (y.prec<gL op)) (aY y)).length+(1+op.length+1)+(g_ (decide (z.prec<=gL op)) (aY z)).length=S.length:=by rw[<-HS.out];simp only[aa,ac,ah]
 have hpg:(aY y).length<=(g_ (decide (y.prec<gL op)) (aY y)).length:=by unfold g_;split<;>simp<;>omega
 have hph:(aY z).length<=(g_ (decide (z.prec<=gL op)) (aY z)).length:=by unfold g_;split<;>simp<;>omega
 clear hS;simp only[ac,ah]at hn;obtain rfl:n=2:=hn;obtain⟨b0,o0,a0,hA0,hb0,hP0,y00,y10,y20,y30,y40,y50,hRy0⟩:=hR.at_ 0 (by simp);simp only[aE,aK,aW,bg,bM]at y00 y10 y20 y30 y40 y50 hRy0;obtain⟨B0,d0,rfl,_⟩:=hRy0.form;subst hA0;obtain⟨b1,o1,a1,hA1,hb1,hP1,y01,y11,y21,y31,y41,y51,hRy1⟩:=hR.at_ 1 (by simp);simp only[aE,aK,aW,bg,bM]at y01 y11 y21 y31 y41 y51 hRy1;obtain⟨B1,d1,rfl,_⟩:=hRy1.form;injection hA1 with hA1;injection hA1 with hA1 hA2;subst hA1 hA2;have HY0:=G (aq y00 (aq y10 (aq y20 (aq y30 (aq y40 y50)))));have HRy0:=G hRy0;clear y00 y10 y20 y30 y40 y50 hRy0;have HY1:=G (aq y01 (aq y11 (aq y21 (aq y31 (aq y41 y51)))));have HRy1:=G hRy1;clear y01 y11 y21 y31 y41 y51 hRy1;have HC0:=G (show PC b w.heap.size w P 70 #[.int .i64 7, .string (ag op), .string (ag nm), .string (ag tx), .int .i64 v, .slice (some ⟨b0,o0,none⟩) 2 c] (.slice (some ⟨b0,o0,none⟩) 2 c) [y,z] l _ from⟨ax w 70 #[.int .i64 7, .string (ag op), .string (ag nm), .string (ag tx), .int .i64 v, .slice (some ⟨b0,o0,none⟩) 2 c],hB.ext (O w _),hR.keep (.of_ext (O w _)) (fun _ hb _=>hb),aX (O w _) (aI hB.lt),hT.fb (aX (O w _) (aI hB.lt)),bC hB.lt,by decide,hP⟩);have hbc:=HC0.out.box.cell;clear hB hR hT;have HPR0:=G (fun w=>kE y w (.slice B0 y.args.length d0) ⟨_,_,_,rfl⟩);have HO0:=G (oD y hy);have HPR1:=G (fun w=>kE z w (.slice B1 z.args.length d1) ⟨_,_,_,rfl⟩);have HO1:=G (oD z hz);generalize y.prec=p0 at*;generalize z.prec=p1 at*;obtain⟨c1,Hc1⟩: ∃c,Hid ([32]++op=c):=⟨_,G rfl⟩
 have hzc1:c1.length=1+op.length:=by rw[<-Hc1.out,aa];rfl
 have hsc1:(⟨#[32]⟩:ByteArray)++ag op=ag c1:=by rw[<-Hc1.out];exact cd _ _
 have hmc1: ¬9223372036854775807<1+op.length:=by omega
 have hkc1: ¬9223372036854775807<op.length+1:=by omega
 have hqc1l:((⟨#[32]⟩:ByteArray)).size=1:=rfl;have hqc1op:(ag op).size=op.length:=aL _;obtain⟨c2,Hc2⟩: ∃c,Hid (c1++[32]=c):=⟨_,G rfl⟩
 have hzc2:c2.length=c1.length+1:=by rw[<-Hc2.out,aa];rfl
 have hsc2:ag c1++(⟨#[32]⟩:ByteArray)=ag c2:=by rw[<-Hc2.out];exact cd _ _
 have hmc2: ¬9223372036854775807<c1.length+1:=by omega
 have hkc2: ¬9223372036854775807<1+c1.length:=by omega
 have hqc2c1:(ag c1).size=c1.length:=aL _;have hqc2l:((⟨#[32]⟩:ByteArray)).size=1:=rfl;have Hz1:=G hzc1;have Hz2:=G hzc2;clear hzc1 hzc2;have HPS:=G (fun w=>kE (.mk 7 op nm tx v [y,z]) w (.slice (some ⟨b0,o0,none⟩) 2 c) ⟨_,_,_,rfl⟩);have hps:Ex.prec (.mk 7 op nm tx v [y,z])=gL op:=rfl;rw[hps]at HPS;simp only[Ex.k,Ex.op,Ex.nm,Ex.tx,Ex.v]at HPS;generalize gL op=L at*;generalize aY y=Sy at*;generalize aY z=Sz at*;clear hy hz hps;go_enter func201,ntmps201;go_wp2_with (go_at_call 217;refine(HPS.out _).mono ?_;rintro e u1 ⟨rfl,hE⟩;have HC1:=G (HC0.out.ex hE);clear hE hbc HC0;have hbc:=HC1.out.box.cell);have hbw1:=aI HC1.out.bu.lt;clear hbc;refine gg b 13 8 [(9,fun x=>x= .int .i64 p0,fun _ _=>True),(12,fun x=>x= .tuple #[],fun _ wx=>Bu wx b (l++g_ (decide (p0<L)) Sy))] 12 mixed (by kernel_rfl) hbw1 ⟨fun _ _ _ _ _=>trivial,fun _ _ _ h hx=>h.ext hx,trivial⟩ ⟨.inr fun _ _ _ _ _=>trivial, .inl rfl,trivial⟩ ?_;repeat (refine sx ?_ (fun w1 hU=> ?_) ?_;rotate_left;(focus have hF:=kJ (hU hbw1);have f1:=(hF.keep _ _ _ HC1.out.ne HC1.out.tt HC1.out.box).cell;have hK:=d8 (HC1.out.fb.keepP hP) (hF.keepP hP);have e0:=(hK.cell (o0) hP0 hb0).trans HY0.out.1;have e1:=(hK.cell (o0+1) hP0 hb0).trans HY0.out.2.1;have e2:=(hK.cell (o0+2) hP0 hb0).trans HY0.out.2.2.1;have e3:=(hK.cell (o0+3) hP0 hb0).trans HY0.out.2.2.2.1;have e4:=(hK.cell (o0+4) hP0 hb0).trans HY0.out.2.2.2.2.1;have e5:=(hK.cell (o0+5) hP0 hb0).trans HY0.out.2.2.2.2.2;clear hF hK hU;go_simp<;>with_reducible rfl);simp only[aU,aT,aS,aR,aQ])
 refine so (fun w6 hU hp K hK=> ?_) ?_
 ·clear hp hU;go_simp;refine(HPR0.out w6).mono ?_;rintro e w7 ⟨rfl,hE⟩;exact hK _ _ hE rfl trivial
 rintro _ rfl;simp only[aU,aT,aS,aR,aQ];repeat (refine sx ?_ (fun w1 hU=> ?_) ?_;rotate_left;(focus have hF:=kJ (hU hbw1);have f1:=(hF.keep _ _ _ HC1.out.ne HC1.out.tt HC1.out.box).cell;have hK:=d8 (HC1.out.fb.keepP hP) (hF.keepP hP);have e0:=(hK.cell (o0) hP0 hb0).trans HY0.out.1;have e1:=(hK.cell (o0+1) hP0 hb0).trans HY0.out.2.1;have e2:=(hK.cell (o0+2) hP0 hb0).trans HY0.out.2.2.1;have e3:=(hK.cell (o0+3) hP0 hb0).trans HY0.out.2.2.2.1;have e4:=(hK.cell (o0+4) hP0 hb0).trans HY0.out.2.2.2.2.1;have e5:=(hK.cell (o0+5) hP0 hb0).trans HY0.out.2.2.2.2.2;clear hF hK hU;go_simp<;>with_reducible rfl);simp only[aU,aT,aS,aR,aQ])
 refine eQ _ _ (by rfl) rfl ⟨_,rfl⟩ rfl (fun w6 hT hp K hK=> ?_) ?_
 ·have HC6:=G (HC1.out.ex hT.un);have hR6:=HRy0.out.keep (d8 (HC1.out.fb.keepP hP) (.of_ext hT.un)) (fun _ hb _=>hb);have HR6:=G hR6;clear hp hT hR6;go_simp;refine(HO0.out (decide (p0<L)) P w6 B0 _ d0 b (l) HR6.out hP HC6.out.tab HC6.out.bu (by first|omega|(simp only[aa,ac,ah];omega))).mono ?_;rintro e w7 ⟨rfl,h1,h2⟩;exact hK _ _ (fun _=>h2) rfl h1
 rintro _ rfl;simp only[aU,aT,aS,aR,aQ];intro v2 hv hp;have HC2:=G (HC1.out.wr (hp _ (.head _)) hv);clear hv hp;simp only[ab,aG];have hbc:=HC2.out.box.cell;go_wp2_with fail;generalize hq1:g_ (decide (p0<L)) Sy=Q1 at*;refine am 7 3 [] mixed (by kernel_rfl) trivial ?_;repeat (refine sx ?_ (fun w1 hU=> ?_) ?_;rotate_left;(focus have f1:=(HC2.out.ex hU.un).box.cell;clear hU;go_simp<;>with_reducible rfl);simp only[aU,aT,aS,aR,aQ])
 intro z3 hz3 hp;clear hp;simp only[ab,ap];have HC3:=G (HC2.out.ex hz3.un);clear hz3 hbc HC2;have hbc:=HC3.out.box.cell;go_wp2_with ((go_at_call 91;refine(cf b (l++Q1) c2 _ HC3.out.bu (by have a1:=Hz1.out;have a2:=Hz2.out;simp only[aa];omega)).mono ?_;rintro e u4 ⟨rfl,h1,h2⟩;have HC4:=G (HC3.out.wr h1 h2);clear h1 h2 HC3;clear hbc;have hbc:=HC4.out.box.cell));have a1:l.length+Q1.length+c2.length+(g_ (decide (p1<=L)) Sz).length<=1000000000:=by have a1:=Hz1.out;have a2:=Hz2.out;omega
 clear hsc1 hsc2 hmc1 hmc2 hkc1 hkc2 hqc1l hqc1op hqc2c1 hqc2l hlen hl hpg hph;have hbw4:=aI HC4.out.bu.lt;clear hbc;refine gg b 13 8 [(9,fun x=>x= .int .i64 p1,fun _ _=>True),(12,fun x=>x= .tuple #[],fun _ wx=>Bu wx b (l++Q1++c2++g_ (decide (p1<=L)) Sz))] 12 mixed (by kernel_rfl) hbw4 ⟨fun _ _ _ _ _=>trivial,fun _ _ _ h hx=>h.ext hx,trivial⟩ ⟨.inr fun _ _ _ _ _=>trivial, .inl rfl,trivial⟩ ?_;repeat (refine sx ?_ (fun w1 hU=> ?_) ?_;rotate_left;(focus have hF:=kJ (hU hbw4);have f1:=(hF.keep _ _ _ HC4.out.ne HC4.out.tt HC4.out.box).cell;have hK:=d8 (HC4.out.fb.keepP hP) (hF.keepP hP);have e0:=(hK.cell (o0+6) hP1 hb1).trans HY1.out.1;have e1:=(hK.cell (o0+6+1) hP1 hb1).trans HY1.out.2.1;have e2:=(hK.cell (o0+6+2) hP1 hb1).trans HY1.out.2.2.1;have e3:=(hK.cell (o0+6+3) hP1 hb1).trans HY1.out.2.2.2.1;have e4:=(hK.cell (o0+6+4) hP1 hb1).trans HY1.out.2.2.2.2.1;have e5:=(hK.cell (o0+6+5) hP1 hb1).trans HY1.out.2.2.2.2.2;clear hF hK hU;go_simp<;>with_reducible rfl);simp only[aU,aT,aS,aR,aQ])
 refine so (fun w6 hU hp K hK=> ?_) ?_
 ·clear hp hU;go_simp;refine(HPR1.out w6).mono ?_;rintro e w7 ⟨rfl,hE⟩;exact hK _ _ hE rfl trivial
 rintro _ rfl;simp only[aU,aT,aS,aR,aQ];repeat (refine sx ?_ (fun w1 hU=> ?_) ?_;rotate_left;(focus have hF:=kJ (hU hbw4);have f1:=(hF.keep _ _ _ HC4.out.ne HC4.out.tt HC4.out.box).cell;have hK:=d8 (HC4.out.fb.keepP hP) (hF.keepP hP);have e0:=(hK.cell (o0+6) hP1 hb1).trans HY1.out.1;have e1:=(hK.cell (o0+6+1) hP1 hb1).trans HY1.out.2.1;have e2:=(hK.cell (o0+6+2) hP1 hb1).trans HY1.out.2.2.1;have e3:=(hK.cell (o0+6+3) hP1 hb1).trans HY1.out.2.2.2.1;have e4:=(hK.cell (o0+6+4) hP1 hb1).trans HY1.out.2.2.2.2.1;have e5:=(hK.cell (o0+6+5) hP1 hb1).trans HY1.out.2.2.2.2.2;clear hF hK hU;go_simp<;>with_reducible rfl);simp only[aU,aT,aS,aR,aQ])
 refine eQ _ _ (by rfl) rfl ⟨_,rfl⟩ rfl (fun w6 hT hp K hK=> ?_) ?_
 ·have HC6:=G (HC4.out.ex hT.un);have hR6:=HRy1.out.keep (d8 (HC4.out.fb.keepP hP) (.of_ext hT.un)) (fun _ hb _=>hb);have HR6:=G hR6;clear hp hT hR6;go_simp;refine(HO1.out (decide (p1<=L)) P w6 B1 _ d1 b (l++Q1++c2) HR6.out hP HC6.out.tab HC6.out.bu (by first|omega|(simp only[aa,ac,ah];omega))).mono ?_;rintro e w7 ⟨rfl,h1,h2⟩;exact hK _ _ (fun _=>h2) rfl h1
 rintro _ rfl;simp only[aU,aT,aS,aR,aQ];intro v5 hv hp;have HC5:=G (HC4.out.wr (hp _ (.head _)) hv);clear hv hp;simp only[ab,aG];have hbc:=HC5.out.box.cell;go_wp2_with fail
 go_end0
 exact⟨rfl,by rw[<-HS.out];have:=HC5.out.bu;rw[<-Hc2.out,<-Hc1.out]at this;simpa[aA]using this,HC5.out.fb⟩
end
section
open Go.RowKit
theorem rW: ∀(m:Nat) (x:Ex),x.wt<=m->x.ok=true->lJ x
 |0,x,hm,_=>absurd hm (by have:=x.wt_eq;omega)
 |m+1, .mk k op nm tx v a,hm,h=>by
  have hw:=(Ex.mk k op nm tx v a).wt_eq;simp only[Ex.op,Ex.nm,Ex.tx,Ex.args]at hw;rw[Ex.ok,ak]at h;obtain⟨h1,h2⟩:=h;rw[gn]at h2;have ih: ∀y,y∈a->lJ y:=fun y hy=>rW m y (by have:=bX hy;omega) (List.all_eq_true.1 h2 y hy);intro P w A n c b l hR hP hT hB hl;simp only[Ex.k,Ex.op,Ex.nm,Ex.tx,Ex.v,Ex.args]at*;by_cases k1:k=1
  ·subst k1;rw[if_pos rfl]at h1;simp only[ak,decide_eq_true_eq]at h1;exact Cd op nm tx v a h1.1.1.1 h1.1.1.2 P w A n c b l hR hP hT hB _ rfl hl
  rw[if_neg k1]at h1;by_cases k2:k=2
  ·subst k2;rw[if_pos rfl]at h1;simp only[ak,kh,decide_eq_true_eq]at h1;exact Cc op nm tx v a h1.1.1.2 P w A n c b l hR hP hT hB _ rfl hl
  rw[if_neg k2]at h1;by_cases k3:k=3
  ·subst k3;exact Cb op nm tx v a P w A n c b l hR hP hT hB _ rfl hl
  rw[if_neg k3]at h1;by_cases k4:k=4
  ·subst k4;rw[if_pos rfl]at h1;simp only[ak,beq_iff_eq]at h1;obtain⟨y,rfl⟩:=List.length_eq_one_iff.1 h1.2;exact Ca op nm tx v y (ih y (by simp)) P w A n c b l hR hP hT hB _ rfl hl
  rw[if_neg k4]at h1;by_cases k5:k=5
  ·subst k5;rw[if_pos rfl]at h1;simp only[ak,decide_eq_true_eq]at h1;exact B_ op nm tx v a ih h1.1.2 P w A n c b l hR hP hT hB _ rfl hl
  rw[if_neg k5]at h1;by_cases k6:k=6
  ·subst k6;rw[if_pos rfl]at h1;simp only[ak,beq_iff_eq]at h1;obtain⟨y,rfl⟩:=List.length_eq_one_iff.1 h1.2;exact B9 op nm tx v y (ih y (by simp)) P w A n c b l hR hP hT hB _ rfl hl
  rw[if_neg k6]at h1;by_cases k7:k=7
  ·subst k7;rw[if_pos rfl]at h1;simp only[ak,beq_iff_eq]at h1;obtain⟨y,z,rfl⟩: ∃y z,a=[y,z]:=by
    cases a with
    |nil=>simp at h1
    |cons y r=>
     cases r with
     |nil=>simp at h1
     |cons z r=>
      cases r with
      |nil=>exact⟨y,z,rfl⟩
      |cons u r=>simp at h1
   exact B8 op nm tx v y z (ih y (by simp)) (ih z (by simp)) P w A n c b l hR hP hT hB _ rfl hl
  ·rw[if_neg k7]at h1
   cases h1
theorem xh {x:Ex} (h:x.ok=true):lJ x:=rW _ x (an _) h
def dr (i:Nat):List UInt8:=List.replicate i 9
def co (i:Nat) (ts:List (List UInt8)):List UInt8:=[123,10]++ts.flatMap (fun t=>dr (i+1)++t++[10])++(dr i++[125])
def iz:List UInt8:=[118,97,114,32]
def nx:List UInt8:=[32,61,32]
def mc:List UInt8:=[105,102,32]
def ew:List UInt8:=[32,101,108,115,101,32]
def eW:List UInt8:=[119,104,105,108,101,32]
def dA:List UInt8:=[114,101,116,117,114,110]
def iT (i:Nat) (k:Int) (nm:List UInt8) (es bs ls l0:List (List UInt8)) (lH:Bool):List UInt8:=
 if k=1 then(if es=[]then iz++nm++[59]else iz++nm++nx++es.headD []++[59])
 else if k=2 then nm++nx++es.headD []++[59]
 else if k=3 then nm++[91]++es.headD []++[93]++(nx++es.tail.headD []++[59])
 else if k=4 then mc++es.headD []++[32]++co i bs++(if lH then ew++l0.headD []else if ls=[]then[]else ew++co i ls)
 else if k=5 then eW++es.headD []++[32]++co i bs
 else if k=6 then(if es=[]then dA++[59]else dA++[32]++es.headD []++[59])
 else if k=7 then es.headD []++[59]
 else[]
def gP (l:List St):Bool:=l.length==1&&l.head?.map St.k==some 4
mutual
def aZ:St->Nat->List UInt8| .mk k nm e b l,i=>iT i k nm (cU e) (a6 b (i+1)) (a6 l (i+1)) (a6 l i) (gP l)
def a6:List St->Nat->List (List UInt8)
 | [],_=>[]
 |x::r,i=>aZ x i::a6 r i
end
theorem gu: ∀(l:List St) (i:Nat),a6 l i=l.map fun x=>aZ x i
 | [],_=>rfl
 |x::r,i=>by rw[a6,gu r i];rfl
def fR (v:Vr):List UInt8:=iz++v.nm++(if 0<v.sz then[91]++eD v.sz.toNat++[93]else[])++[59,10]
def rH:List UInt8:=[102,117,110,99,32]
def gE (f:Fc):List UInt8:=rH++f.nm++[40]++bT [44,32] f.ps++[41,32]++co 0 (a6 f.body 1)++[10]
def gh (p:Pg):List UInt8:=p.vs.flatMap fR++p.fs.flatMap gE
end
section
open Go.RowKit
structure PS (b px:Nat) (w0:World) (P:Nat->Prop) (cs:Array Value) (e v z:Value) (x:St) (l:List UInt8) (W:World):Prop where
 box:aO W px 72 cs
 bu:Bu W b l
 re:b8 W P e x.ex
 rb:cM W P v x.body
 rl:cM W P z x.els
 fb:FB b w0 W
 tab:dn W b
 ne:px≠b
 tt:72≠5
 hP: ∀k,P k->k<b
section
variable {b px:Nat} {w0 W W':World} {P:Nat->Prop} {cs:Array Value} {e v z:Value} {x:St} {l l':List UInt8}
theorem PS.wr (h:PS b px w0 P cs e v z x l W) (hB:Bu W' b l') (hF:FB b W W'):PS b px w0 P cs e v z x l' W':=
 ⟨hF.keep _ _ _ h.ne h.tt h.box,hB,h.re.keep (hF.keepP h.hP) (fun _ hb _=>hb),h.rb.keep (hF.keepP h.hP) (fun _ hb _=>hb),h.rl.keep (hF.keepP h.hP) (fun _ hb _=>hb),h.fb.trans hF,h.tab.fb hF,h.ne,h.tt,h.hP⟩
theorem PS.ex (h:PS b px w0 P cs e v z x l W) (hE:au W W'):PS b px w0 P cs e v z x l W':=h.wr (h.bu.ext hE) (aX hE (aI h.bu.lt))
end
theorem d6 (x:Ex) (hx:lJ x) (hd tl:List UInt8) (P:Nat->Prop) (w:World) (A:Option Addr) (n c b:Nat) (l:List UInt8) (hR:b8 w P (.slice A n c) x.args) (hP: ∀k,P k->k<b) (hT:dn w b) (hB:Bu w b l) (hl:l.length+hd.length+(aY x).length+tl.length<=1000000000):
  Calls prog 175 #[.pointer (some ⟨b,0,none⟩), .string (ag hd), .agg #[.int .i64 x.k, .string (ag x.op), .string (ag x.nm), .string (ag x.tx), .int .i64 x.v, .slice A n c], .string (ag tl)] w fun e w'=>e= .returned (.tuple #[])/\Bu w' b (l++(hd++aY x++tl))/\FB b w w':=by
 have HX:=G hx;clear hx;unfold lJ at HX;generalize aY x=S at*;generalize hargs:x.args=xs at*;generalize x.k=k at*;generalize x.op=op at*;generalize x.nm=nm at*;generalize x.tx=tx at*;generalize x.v=v at*;have HC0:=G (show PC b w.heap.size w P 70 #[.int .i64 k, .string (ag op), .string (ag nm), .string (ag tx), .int .i64 v, .slice A n c] (.slice A n c) xs l _ from⟨ax w 70 #[.int .i64 k, .string (ag op), .string (ag nm), .string (ag tx), .int .i64 v, .slice A n c],hB.ext (O w _),hR.keep (.of_ext (O w _)) (fun _ hb _=>hb),aX (O w _) (aI hB.lt),hT.fb (aX (O w _) (aI hB.lt)),bC hB.lt,by decide,hP⟩);have hbc:=HC0.out.box.cell;clear hB hR hT;go_enter func175,ntmps175;go_wp2_with (first|(go_at_call 91;refine(cf b l hd _ HC0.out.bu (by omega)).mono ?_;rintro e u1 ⟨rfl,h1,h2⟩;have HC1:=G (HC0.out.wr h1 h2);clear h1 h2 HC0;clear hbc;have hbc:=HC1.out.box.cell)|(go_at_call 201;refine(HX.out P _ A n c b (l++hd) HC1.out.rd hP HC1.out.tab HC1.out.bu (by simp only[aa];omega)).mono ?_;rintro e u2 ⟨rfl,h1,h2⟩;have HC2:=G (HC1.out.wr h1 h2);clear h1 h2 HC1)|(go_at_call 91;refine(cf b (l++hd++S) tl _ HC2.out.bu (by simp only[aa];omega)).mono ?_;rintro e u3 ⟨rfl,h1,h2⟩;have HC3:=G (HC2.out.wr h1 h2);clear h1 h2 HC2))
 go_end0
 exact⟨rfl,by have:=HC3.out.bu;simpa[aA]using this,HC3.out.fb⟩
def zX (x:St):Prop:= ∀(P:Nat->Prop) (w:World) (A B C:Option Addr) (n c nb cb nl cl b i:Nat) (l:List UInt8),b8 w P (.slice A n c) x.ex->cM w P (.slice B nb cb) x.body->cM w P (.slice C nl cl) x.els->(∀k,P k->k<b)->dn w b->Bu w b l->l.length+(aZ x i).length<=1000000000->Calls prog 136 #[.pointer (some ⟨b,0,none⟩), .agg #[.int .i64 x.k, .string (ag x.nm), .slice A n c, .slice B nb cb, .slice C nl cl], .int .i64 (i:Int)] w fun e w'=>e= .returned (.tuple #[])/\Bu w' b (l++aZ x i)/\FB b w w'
def ru (x:St):Prop:= ∀(P:Nat->Prop) (w:World) (A B C:Option Addr) (n c nb cb nl cl b i:Nat) (l:List UInt8),b8 w P (.slice A n c) x.ex->cM w P (.slice B nb cb) x.body->cM w P (.slice C nl cl) x.els->(∀k,P k->k<b)->dn w b->Bu w b l->l.length+(aZ x i).length<=1000000000->Calls prog 176 #[.pointer (some ⟨b,0,none⟩), .agg #[.int .i64 x.k, .string (ag x.nm), .slice A n c, .slice B nb cb, .slice C nl cl], .int .i64 (i:Int)] w fun e w'=>e= .returned (.tuple #[])/\Bu w' b (l++aZ x i)/\FB b w w'
def jW (xs:List St):Prop:= ∀(P:Nat->Prop) (w:World) (B:Option Addr) (nb cb b i:Nat) (l:List UInt8),cM w P (.slice B nb cb) xs->(∀k,P k->k<b)->dn w b->Bu w b l->l.length+(co i (a6 xs (i+1))).length<=1000000000->
 Calls prog 94 #[.pointer (some ⟨b,0,none⟩), .slice B nb cb, .int .i64 (i:Int)] w fun e w'=>e= .returned (.tuple #[])/\Bu w' b (l++co i (a6 xs (i+1)))/\FB b w w'
theorem Ai (nm:List UInt8) (body els:List St) (P:Nat->Prop) (w:World) (A B C:Option Addr) (n c nb cb nl cl b i:Nat) (l:List UInt8) (hR:b8 w P (.slice A n c) []) (hRb:cM w P (.slice B nb cb) body) (hRl:cM w P (.slice C nl cl) els) (hP: ∀k,P k->k<b) (hT:dn w b) (hB:Bu w b l) (S:List UInt8) (hS:aZ (.mk 1 nm [] body els) i=S) (hl:l.length+S.length<=1000000000):
  Calls prog 136 #[.pointer (some ⟨b,0,none⟩), .agg #[.int .i64 1, .string (ag nm), .slice A n c, .slice B nb cb, .slice C nl cl], .int .i64 (i:Int)] w fun e w'=>e= .returned (.tuple #[])/\Bu w' b (l++S)/\FB b w w':=by
 have hn:=hR.len;simp only[ah]at hn;obtain rfl:n=0:=hn;have HS:=G (show[118,97,114,32]++nm++[59]=S from by rw[<-hS];rfl);have hlen:4+nm.length+1=S.length:=by rw[<-HS.out];simp only[aa,ac,ah]
 clear hS;have HC0:=G (show PS b w.heap.size w P #[.int .i64 1, .string (ag nm), .slice A 0 c, .slice B nb cb, .slice C nl cl] (.slice A 0 c) (.slice B nb cb) (.slice C nl cl) (.mk 1 nm [] body els) l _ from⟨ax w 72 #[.int .i64 1, .string (ag nm), .slice A 0 c, .slice B nb cb, .slice C nl cl],hB.ext (O w _),hR.keep (.of_ext (O w _)) (fun _ hb _=>hb),hRb.keep (.of_ext (O w _)) (fun _ hb _=>hb),hRl.keep (.of_ext (O w _)) (fun _ hb _=>hb),aX (O w _) (aI hB.lt),hT.fb (aX (O w _) (aI hB.lt)),bC hB.lt,by decide,hP⟩);have hbc:=HC0.out.box.cell;clear hB hR hT hRb hRl;obtain⟨c1,Hc1⟩: ∃c,Hid ([118,97,114,32]++nm=c):=⟨_,G rfl⟩
 have hzc1:c1.length=4+nm.length:=by rw[<-Hc1.out,aa];(try rfl)
 have hsc1:(⟨#[118,97,114,32]⟩:ByteArray)++ag nm=ag c1:=by rw[<-Hc1.out];exact cd _ _
 have hmc1: ¬9223372036854775807<4+nm.length:=by omega
 have hkc1: ¬9223372036854775807<nm.length+4:=by omega
 have hqc1l:((⟨#[118,97,114,32]⟩:ByteArray)).size=4:=rfl;have hqc1nm:(ag nm).size=nm.length:=aL _;obtain⟨c2,Hc2⟩: ∃c,Hid (c1++[59]=c):=⟨_,G rfl⟩
 have hzc2:c2.length=c1.length+1:=by rw[<-Hc2.out,aa];(try rfl)
 have hsc2:ag c1++(⟨#[59]⟩:ByteArray)=ag c2:=by rw[<-Hc2.out];exact cd _ _
 have hmc2: ¬9223372036854775807<c1.length+1:=by omega
 have hkc2: ¬9223372036854775807<1+c1.length:=by omega
 have hqc2c1:(ag c1).size=c1.length:=aL _;have hqc2l:((⟨#[59]⟩:ByteArray)).size=1:=rfl;have Hzc1:=G hzc1;clear hzc1;have Hzc2:=G hzc2;clear hzc2;go_enter func136,ntmps136;go_wp2_with fail;refine am 7 3 [] mixed (by kernel_rfl) trivial ?_;repeat (refine sx ?_ (fun w1 hU=> ?_) ?_;rotate_left;(focus have f1:=(HC0.out.ex hU.un).box.cell;clear hU;go_simp<;>with_reducible rfl);simp only[aU,aT,aS,aR,aQ])
 intro zz1 hzz1 hp;clear hp;simp only[ab,ap];have HC1:=G (HC0.out.ex hzz1.un);clear hzz1 hbc HC0;have hbc:=HC1.out.box.cell;go_wp2_with ((go_at_call 91;refine(cf b l c2 _ HC1.out.bu (by(try have a1:=Hzc1.out);(try have a2:=Hzc2.out);(try simp only[aa,ac,ah]);omega)).mono ?_;rintro e u2 ⟨rfl,h1,h2⟩;have HC2:=G (HC1.out.wr h1 h2);clear h1 h2 HC1))
 (try simp only[Exit.inBlock,Exit.then]);refine bodyPost_ret (results_none rfl _ _ _) rfl ?_
 exact⟨rfl,by rw[<-HS.out];have:=HC2.out.bu;rw[<-Hc2.out,<-Hc1.out]at this;simpa[aA]using this,HC2.out.fb⟩
theorem Ah (nm:List UInt8) (body els:List St) (y:Ex) (hy:lJ y) (P:Nat->Prop) (w:World) (A B C:Option Addr) (n c nb cb nl cl b i:Nat) (l:List UInt8) (hR:b8 w P (.slice A n c) [y]) (hRb:cM w P (.slice B nb cb) body) (hRl:cM w P (.slice C nl cl) els) (hP: ∀k,P k->k<b) (hT:dn w b) (hB:Bu w b l) (S:List UInt8) (hS:aZ (.mk 1 nm [y] body els) i=S) (hl:l.length+S.length<=1000000000):
  Calls prog 136 #[.pointer (some ⟨b,0,none⟩), .agg #[.int .i64 1, .string (ag nm), .slice A n c, .slice B nb cb, .slice C nl cl], .int .i64 (i:Int)] w fun e w'=>e= .returned (.tuple #[])/\Bu w' b (l++S)/\FB b w w':=by
 have HS:=G (show[118,97,114,32]++nm++[32,61,32]++aY y++[59]=S from by rw[<-hS];rfl);have hlen:4+nm.length+3+(aY y).length+1=S.length:=by rw[<-HS.out];simp only[aa,ac,ah]
 clear hS;have hn:=hR.len;simp only[ac,ah]at hn;obtain rfl:n=1:=hn;obtain⟨b0,o0,a0,hA0,hb0,hP0,y00,y10,y20,y30,y40,y50,hRy0⟩:=hR.at_ 0 (by simp);simp only[aE,aK,aW,bg,bM]at y00 y10 y20 y30 y40 y50 hRy0;obtain⟨B0,d0,rfl,_⟩:=hRy0.form;have HY0:=G (aq y00 (aq y10 (aq y20 (aq y30 (aq y40 y50)))));have HRy0:=G hRy0;clear y00 y10 y20 y30 y40 y50 hRy0;subst hA0;have HC0:=G (show PS b w.heap.size w P #[.int .i64 1, .string (ag nm), .slice (some ⟨b0,o0,none⟩) 1 c, .slice B nb cb, .slice C nl cl] (.slice (some ⟨b0,o0,none⟩) 1 c) (.slice B nb cb) (.slice C nl cl) (.mk 1 nm [y] body els) l _ from⟨ax w 72 #[.int .i64 1, .string (ag nm), .slice (some ⟨b0,o0,none⟩) 1 c, .slice B nb cb, .slice C nl cl],hB.ext (O w _),hR.keep (.of_ext (O w _)) (fun _ hb _=>hb),hRb.keep (.of_ext (O w _)) (fun _ hb _=>hb),hRl.keep (.of_ext (O w _)) (fun _ hb _=>hb),aX (O w _) (aI hB.lt),hT.fb (aX (O w _) (aI hB.lt)),bC hB.lt,by decide,hP⟩);have hbc:=HC0.out.box.cell;clear hB hR hT hRb hRl;obtain⟨c1,Hc1⟩: ∃c,Hid ([118,97,114,32]++nm=c):=⟨_,G rfl⟩
 have hzc1:c1.length=4+nm.length:=by rw[<-Hc1.out,aa];(try rfl)
 have hsc1:(⟨#[118,97,114,32]⟩:ByteArray)++ag nm=ag c1:=by rw[<-Hc1.out];exact cd _ _
 have hmc1: ¬9223372036854775807<4+nm.length:=by omega
 have hkc1: ¬9223372036854775807<nm.length+4:=by omega
 have hqc1l:((⟨#[118,97,114,32]⟩:ByteArray)).size=4:=rfl;have hqc1nm:(ag nm).size=nm.length:=aL _;obtain⟨c2,Hc2⟩: ∃c,Hid (c1++[32,61,32]=c):=⟨_,G rfl⟩
 have hzc2:c2.length=c1.length+3:=by rw[<-Hc2.out,aa];(try rfl)
 have hsc2:ag c1++(⟨#[32,61,32]⟩:ByteArray)=ag c2:=by rw[<-Hc2.out];exact cd _ _
 have hmc2: ¬9223372036854775807<c1.length+3:=by omega
 have hkc2: ¬9223372036854775807<3+c1.length:=by omega
 have hqc2c1:(ag c1).size=c1.length:=aL _;have hqc2l:((⟨#[32,61,32]⟩:ByteArray)).size=3:=rfl;have Hzc1:=G hzc1;clear hzc1;have Hzc2:=G hzc2;clear hzc2;go_enter func136,ntmps136;go_wp2_with fail;refine am 9 3 [] mixed (by kernel_rfl) trivial ?_;repeat (refine sx ?_ (fun w1 hU=> ?_) ?_;rotate_left;(focus have f1:=(HC0.out.ex hU.un).box.cell;have e0:=((HC0.out.ex hU.un).fb.keepP hP).cell (o0) hP0 hb0|>.trans HY0.out.1;have e1:=((HC0.out.ex hU.un).fb.keepP hP).cell (o0+1) hP0 hb0|>.trans HY0.out.2.1;have e2:=((HC0.out.ex hU.un).fb.keepP hP).cell (o0+2) hP0 hb0|>.trans HY0.out.2.2.1;have e3:=((HC0.out.ex hU.un).fb.keepP hP).cell (o0+3) hP0 hb0|>.trans HY0.out.2.2.2.1;have e4:=((HC0.out.ex hU.un).fb.keepP hP).cell (o0+4) hP0 hb0|>.trans HY0.out.2.2.2.2.1;have e5:=((HC0.out.ex hU.un).fb.keepP hP).cell (o0+5) hP0 hb0|>.trans HY0.out.2.2.2.2.2;clear hU;go_simp<;>with_reducible rfl);simp only[aU,aT,aS,aR,aQ])
 intro zz1 hzz1 hp;clear hp;simp only[ab,ap];have HC1:=G (HC0.out.ex hzz1.un);clear hzz1 hbc HC0;have hbc:=HC1.out.box.cell;have hlz:=hlen;go_wp2_with (go_at_call 175;refine(d6 y hy c2 [59] P _ B0 _ d0 b l (HRy0.out.keep (HC1.out.fb.keepP hP) (fun _ hb _=>hb)) hP HC1.out.tab HC1.out.bu (by(try have a1:=Hzc1.out);(try have a2:=Hzc2.out);simp only[aa,ac,ah];omega)).mono ?_;rintro e u2 ⟨rfl,h1,h2⟩;have HC2:=G (HC1.out.wr h1 h2);clear h1 h2 HC1)
 go_end0
 exact⟨rfl,by rw[<-HS.out];have:=HC2.out.bu;rw[<-Hc2.out,<-Hc1.out]at this;simpa[aA]using this,HC2.out.fb⟩
theorem Bt (nm:List UInt8) (body els:List St) (y:Ex) (hy:lJ y) (P:Nat->Prop) (w:World) (A B C:Option Addr) (n c nb cb nl cl b i:Nat) (l:List UInt8) (hR:b8 w P (.slice A n c) [y]) (hRb:cM w P (.slice B nb cb) body) (hRl:cM w P (.slice C nl cl) els) (hP: ∀k,P k->k<b) (hT:dn w b) (hB:Bu w b l) (S:List UInt8) (hS:aZ (.mk 2 nm [y] body els) i=S) (hl:l.length+S.length<=1000000000):
  Calls prog 136 #[.pointer (some ⟨b,0,none⟩), .agg #[.int .i64 2, .string (ag nm), .slice A n c, .slice B nb cb, .slice C nl cl], .int .i64 (i:Int)] w fun e w'=>e= .returned (.tuple #[])/\Bu w' b (l++S)/\FB b w w':=by
 have HS:=G (show nm++[32,61,32]++aY y++[59]=S from by rw[<-hS];rfl);have hlen:nm.length+3+(aY y).length+1=S.length:=by rw[<-HS.out];simp only[aa,ac,ah]
 clear hS;have hn:=hR.len;simp only[ac,ah]at hn;obtain rfl:n=1:=hn;obtain⟨b0,o0,a0,hA0,hb0,hP0,y00,y10,y20,y30,y40,y50,hRy0⟩:=hR.at_ 0 (by simp);simp only[aE,aK,aW,bg,bM]at y00 y10 y20 y30 y40 y50 hRy0;obtain⟨B0,d0,rfl,_⟩:=hRy0.form;have HY0:=G (aq y00 (aq y10 (aq y20 (aq y30 (aq y40 y50)))));have HRy0:=G hRy0;clear y00 y10 y20 y30 y40 y50 hRy0;subst hA0;have HC0:=G (show PS b w.heap.size w P #[.int .i64 2, .string (ag nm), .slice (some ⟨b0,o0,none⟩) 1 c, .slice B nb cb, .slice C nl cl] (.slice (some ⟨b0,o0,none⟩) 1 c) (.slice B nb cb) (.slice C nl cl) (.mk 2 nm [y] body els) l _ from⟨ax w 72 #[.int .i64 2, .string (ag nm), .slice (some ⟨b0,o0,none⟩) 1 c, .slice B nb cb, .slice C nl cl],hB.ext (O w _),hR.keep (.of_ext (O w _)) (fun _ hb _=>hb),hRb.keep (.of_ext (O w _)) (fun _ hb _=>hb),hRl.keep (.of_ext (O w _)) (fun _ hb _=>hb),aX (O w _) (aI hB.lt),hT.fb (aX (O w _) (aI hB.lt)),bC hB.lt,by decide,hP⟩);have hbc:=HC0.out.box.cell;clear hB hR hT hRb hRl;obtain⟨c1,Hc1⟩: ∃c,Hid (nm++[32,61,32]=c):=⟨_,G rfl⟩
 have hzc1:c1.length=nm.length+3:=by rw[<-Hc1.out,aa];(try rfl)
 have hsc1:ag nm++(⟨#[32,61,32]⟩:ByteArray)=ag c1:=by rw[<-Hc1.out];exact cd _ _
 have hmc1: ¬9223372036854775807<nm.length+3:=by omega
 have hkc1: ¬9223372036854775807<3+nm.length:=by omega
 have hqc1nm:(ag nm).size=nm.length:=aL _;have hqc1l:((⟨#[32,61,32]⟩:ByteArray)).size=3:=rfl;have Hzc1:=G hzc1;clear hzc1;go_enter func136,ntmps136;go_wp2_with fail;refine am 8 3 [] mixed (by kernel_rfl) trivial ?_;repeat (refine sx ?_ (fun w1 hU=> ?_) ?_;rotate_left;(focus have f1:=(HC0.out.ex hU.un).box.cell;have e0:=((HC0.out.ex hU.un).fb.keepP hP).cell (o0) hP0 hb0|>.trans HY0.out.1;have e1:=((HC0.out.ex hU.un).fb.keepP hP).cell (o0+1) hP0 hb0|>.trans HY0.out.2.1;have e2:=((HC0.out.ex hU.un).fb.keepP hP).cell (o0+2) hP0 hb0|>.trans HY0.out.2.2.1;have e3:=((HC0.out.ex hU.un).fb.keepP hP).cell (o0+3) hP0 hb0|>.trans HY0.out.2.2.2.1;have e4:=((HC0.out.ex hU.un).fb.keepP hP).cell (o0+4) hP0 hb0|>.trans HY0.out.2.2.2.2.1;have e5:=((HC0.out.ex hU.un).fb.keepP hP).cell (o0+5) hP0 hb0|>.trans HY0.out.2.2.2.2.2;clear hU;go_simp<;>with_reducible rfl);simp only[aU,aT,aS,aR,aQ])
 intro zz1 hzz1 hp;clear hp;simp only[ab,ap];have HC1:=G (HC0.out.ex hzz1.un);clear hzz1 hbc HC0;have hbc:=HC1.out.box.cell;have hlz:=hlen;go_wp2_with (go_at_call 175;refine(d6 y hy c1 [59] P _ B0 _ d0 b l (HRy0.out.keep (HC1.out.fb.keepP hP) (fun _ hb _=>hb)) hP HC1.out.tab HC1.out.bu (by(try have a1:=Hzc1.out);(try have a2:=Hzc2.out);simp only[aa,ac,ah];omega)).mono ?_;rintro e u2 ⟨rfl,h1,h2⟩;have HC2:=G (HC1.out.wr h1 h2);clear h1 h2 HC1)
 go_end0
 exact⟨rfl,by rw[<-HS.out];have:=HC2.out.bu;rw[<-Hc1.out]at this;simpa[aA]using this,HC2.out.fb⟩
theorem Ag (nm:List UInt8) (body els:List St) (P:Nat->Prop) (w:World) (A B C:Option Addr) (n c nb cb nl cl b i:Nat) (l:List UInt8) (hR:b8 w P (.slice A n c) []) (hRb:cM w P (.slice B nb cb) body) (hRl:cM w P (.slice C nl cl) els) (hP: ∀k,P k->k<b) (hT:dn w b) (hB:Bu w b l) (S:List UInt8) (hS:aZ (.mk 6 nm [] body els) i=S) (hl:l.length+S.length<=1000000000):
  Calls prog 136 #[.pointer (some ⟨b,0,none⟩), .agg #[.int .i64 6, .string (ag nm), .slice A n c, .slice B nb cb, .slice C nl cl], .int .i64 (i:Int)] w fun e w'=>e= .returned (.tuple #[])/\Bu w' b (l++S)/\FB b w w':=by
 have hn:=hR.len;simp only[ah]at hn;obtain rfl:n=0:=hn;have HS:=G (show[114,101,116,117,114,110]++[59]=S from by rw[<-hS];rfl);have hlen:6+1=S.length:=by rw[<-HS.out];simp only[aa,ac,ah]
 clear hS;have HC0:=G (show PS b w.heap.size w P #[.int .i64 6, .string (ag nm), .slice A 0 c, .slice B nb cb, .slice C nl cl] (.slice A 0 c) (.slice B nb cb) (.slice C nl cl) (.mk 6 nm [] body els) l _ from⟨ax w 72 #[.int .i64 6, .string (ag nm), .slice A 0 c, .slice B nb cb, .slice C nl cl],hB.ext (O w _),hR.keep (.of_ext (O w _)) (fun _ hb _=>hb),hRb.keep (.of_ext (O w _)) (fun _ hb _=>hb),hRl.keep (.of_ext (O w _)) (fun _ hb _=>hb),aX (O w _) (aI hB.lt),hT.fb (aX (O w _) (aI hB.lt)),bC hB.lt,by decide,hP⟩);have hbc:=HC0.out.box.cell;clear hB hR hT hRb hRl;go_enter func136,ntmps136;go_wp2_with ((go_at_call 91;refine(cf b l [114,101,116,117,114,110,59] _ HC0.out.bu (by(try have a1:=Hzc1.out);(try have a2:=Hzc2.out);(try simp only[aa,ac,ah]);omega)).mono ?_;rintro e u2 ⟨rfl,h1,h2⟩;have HC2:=G (HC0.out.wr h1 h2);clear h1 h2 HC0))
 (try simp only[Exit.inBlock,Exit.then]);refine bodyPost_ret (results_none rfl _ _ _) rfl ?_
 exact⟨rfl,by rw[<-HS.out];have:=HC2.out.bu;simpa[aA]using this,HC2.out.fb⟩
theorem Af (nm:List UInt8) (body els:List St) (y:Ex) (hy:lJ y) (P:Nat->Prop) (w:World) (A B C:Option Addr) (n c nb cb nl cl b i:Nat) (l:List UInt8) (hR:b8 w P (.slice A n c) [y]) (hRb:cM w P (.slice B nb cb) body) (hRl:cM w P (.slice C nl cl) els) (hP: ∀k,P k->k<b) (hT:dn w b) (hB:Bu w b l) (S:List UInt8) (hS:aZ (.mk 6 nm [y] body els) i=S) (hl:l.length+S.length<=1000000000):
  Calls prog 136 #[.pointer (some ⟨b,0,none⟩), .agg #[.int .i64 6, .string (ag nm), .slice A n c, .slice B nb cb, .slice C nl cl], .int .i64 (i:Int)] w fun e w'=>e= .returned (.tuple #[])/\Bu w' b (l++S)/\FB b w w':=by
 have HS:=G (show[114,101,116,117,114,110]++[32]++aY y++[59]=S from by rw[<-hS];rfl);have hlen:6+1+(aY y).length+1=S.length:=by rw[<-HS.out];simp only[aa,ac,ah]
 clear hS;have hn:=hR.len;simp only[ac,ah]at hn;obtain rfl:n=1:=hn;obtain⟨b0,o0,a0,hA0,hb0,hP0,y00,y10,y20,y30,y40,y50,hRy0⟩:=hR.at_ 0 (by simp);simp only[aE,aK,aW,bg,bM]at y00 y10 y20 y30 y40 y50 hRy0;obtain⟨B0,d0,rfl,_⟩:=hRy0.form;have HY0:=G (aq y00 (aq y10 (aq y20 (aq y30 (aq y40 y50)))));have HRy0:=G hRy0;clear y00 y10 y20 y30 y40 y50 hRy0;subst hA0;have HC0:=G (show PS b w.heap.size w P #[.int .i64 6, .string (ag nm), .slice (some ⟨b0,o0,none⟩) 1 c, .slice B nb cb, .slice C nl cl] (.slice (some ⟨b0,o0,none⟩) 1 c) (.slice B nb cb) (.slice C nl cl) (.mk 6 nm [y] body els) l _ from⟨ax w 72 #[.int .i64 6, .string (ag nm), .slice (some ⟨b0,o0,none⟩) 1 c, .slice B nb cb, .slice C nl cl],hB.ext (O w _),hR.keep (.of_ext (O w _)) (fun _ hb _=>hb),hRb.keep (.of_ext (O w _)) (fun _ hb _=>hb),hRl.keep (.of_ext (O w _)) (fun _ hb _=>hb),aX (O w _) (aI hB.lt),hT.fb (aX (O w _) (aI hB.lt)),bC hB.lt,by decide,hP⟩);have hbc:=HC0.out.box.cell;clear hB hR hT hRb hRl;go_enter func136,ntmps136;have e0:=(HC0.out.fb.keepP hP).cell (o0) hP0 hb0|>.trans HY0.out.1;have e1:=(HC0.out.fb.keepP hP).cell (o0+1) hP0 hb0|>.trans HY0.out.2.1;have e2:=(HC0.out.fb.keepP hP).cell (o0+2) hP0 hb0|>.trans HY0.out.2.2.1;have e3:=(HC0.out.fb.keepP hP).cell (o0+3) hP0 hb0|>.trans HY0.out.2.2.2.1;have e4:=(HC0.out.fb.keepP hP).cell (o0+4) hP0 hb0|>.trans HY0.out.2.2.2.2.1;have e5:=(HC0.out.fb.keepP hP).cell (o0+5) hP0 hb0|>.trans HY0.out.2.2.2.2.2;go_wp2_with (go_at_call 175;refine(d6 y hy [114,101,116,117,114,110,32] [59] P _ B0 _ d0 b l (HRy0.out.keep (HC0.out.fb.keepP hP) (fun _ hb _=>hb)) hP HC0.out.tab HC0.out.bu (by(try have a1:=Hzc1.out);(try have a2:=Hzc2.out);simp only[aa,ac,ah];omega)).mono ?_;rintro e u2 ⟨rfl,h1,h2⟩;have HC2:=G (HC0.out.wr h1 h2);clear h1 h2 HC0)
 go_end0
 exact⟨rfl,by rw[<-HS.out];have:=HC2.out.bu;simpa[aA]using this,HC2.out.fb⟩
theorem Bp (nm:List UInt8) (body els:List St) (y:Ex) (hy:lJ y) (P:Nat->Prop) (w:World) (A B C:Option Addr) (n c nb cb nl cl b i:Nat) (l:List UInt8) (hR:b8 w P (.slice A n c) [y]) (hRb:cM w P (.slice B nb cb) body) (hRl:cM w P (.slice C nl cl) els) (hP: ∀k,P k->k<b) (hT:dn w b) (hB:Bu w b l) (S:List UInt8) (hS:aZ (.mk 7 nm [y] body els) i=S) (hl:l.length+S.length<=1000000000):
  Calls prog 136 #[.pointer (some ⟨b,0,none⟩), .agg #[.int .i64 7, .string (ag nm), .slice A n c, .slice B nb cb, .slice C nl cl], .int .i64 (i:Int)] w fun e w'=>e= .returned (.tuple #[])/\Bu w' b (l++S)/\FB b w w':=by
 have HS:=G (show aY y++[59]=S from by rw[<-hS];rfl);have hlen:(aY y).length+1=S.length:=by rw[<-HS.out];simp only[aa,ac,ah]
 clear hS;have hn:=hR.len;simp only[ac,ah]at hn;obtain rfl:n=1:=hn;obtain⟨b0,o0,a0,hA0,hb0,hP0,y00,y10,y20,y30,y40,y50,hRy0⟩:=hR.at_ 0 (by simp);simp only[aE,aK,aW,bg,bM]at y00 y10 y20 y30 y40 y50 hRy0;obtain⟨B0,d0,rfl,_⟩:=hRy0.form;have HY0:=G (aq y00 (aq y10 (aq y20 (aq y30 (aq y40 y50)))));have HRy0:=G hRy0;clear y00 y10 y20 y30 y40 y50 hRy0;subst hA0;have HC0:=G (show PS b w.heap.size w P #[.int .i64 7, .string (ag nm), .slice (some ⟨b0,o0,none⟩) 1 c, .slice B nb cb, .slice C nl cl] (.slice (some ⟨b0,o0,none⟩) 1 c) (.slice B nb cb) (.slice C nl cl) (.mk 7 nm [y] body els) l _ from⟨ax w 72 #[.int .i64 7, .string (ag nm), .slice (some ⟨b0,o0,none⟩) 1 c, .slice B nb cb, .slice C nl cl],hB.ext (O w _),hR.keep (.of_ext (O w _)) (fun _ hb _=>hb),hRb.keep (.of_ext (O w _)) (fun _ hb _=>hb),hRl.keep (.of_ext (O w _)) (fun _ hb _=>hb),aX (O w _) (aI hB.lt),hT.fb (aX (O w _) (aI hB.lt)),bC hB.lt,by decide,hP⟩);have hbc:=HC0.out.box.cell;clear hB hR hT hRb hRl;go_enter func136,ntmps136;have e0:=(HC0.out.fb.keepP hP).cell (o0) hP0 hb0|>.trans HY0.out.1;have e1:=(HC0.out.fb.keepP hP).cell (o0+1) hP0 hb0|>.trans HY0.out.2.1;have e2:=(HC0.out.fb.keepP hP).cell (o0+2) hP0 hb0|>.trans HY0.out.2.2.1;have e3:=(HC0.out.fb.keepP hP).cell (o0+3) hP0 hb0|>.trans HY0.out.2.2.2.1;have e4:=(HC0.out.fb.keepP hP).cell (o0+4) hP0 hb0|>.trans HY0.out.2.2.2.2.1;have e5:=(HC0.out.fb.keepP hP).cell (o0+5) hP0 hb0|>.trans HY0.out.2.2.2.2.2;go_wp2_with (go_at_call 175;refine(d6 y hy [] [59] P _ B0 _ d0 b l (HRy0.out.keep (HC0.out.fb.keepP hP) (fun _ hb _=>hb)) hP HC0.out.tab HC0.out.bu (by(try have a1:=Hzc1.out);(try have a2:=Hzc2.out);simp only[aa,ac,ah];omega)).mono ?_;rintro e u2 ⟨rfl,h1,h2⟩;have HC2:=G (HC0.out.wr h1 h2);clear h1 h2 HC0)
 go_end0
 exact⟨rfl,by rw[<-HS.out];have:=HC2.out.bu;simpa[aA]using this,HC2.out.fb⟩
theorem Bs (nm:List UInt8) (body els:List St) (y z:Ex) (hy:lJ y) (hz:lJ z) (P:Nat->Prop) (w:World) (A B C:Option Addr) (n c nb cb nl cl b i:Nat) (l:List UInt8) (hR:b8 w P (.slice A n c) [y,z]) (hRb:cM w P (.slice B nb cb) body) (hRl:cM w P (.slice C nl cl) els) (hP: ∀k,P k->k<b) (hT:dn w b) (hB:Bu w b l) (S:List UInt8) (hS:aZ (.mk 3 nm [y,z] body els) i=S) (hl:l.length+S.length<=1000000000):
  Calls prog 136 #[.pointer (some ⟨b,0,none⟩), .agg #[.int .i64 3, .string (ag nm), .slice A n c, .slice B nb cb, .slice C nl cl], .int .i64 (i:Int)] w fun e w'=>e= .returned (.tuple #[])/\Bu w' b (l++S)/\FB b w w':=by
 have HS:=G (show nm++[91]++aY y++[93]++([32,61,32]++aY z++[59])=S from by rw[<-hS];rfl);have hlen:nm.length+1+(aY y).length+1+(3+(aY z).length+1)=S.length:=by rw[<-HS.out];simp only[aa,ac,ah]
 clear hS;have hn:=hR.len;simp only[ac,ah]at hn;obtain rfl:n=2:=hn;obtain⟨b0,o0,a0,hA0,hb0,hP0,y00,y10,y20,y30,y40,y50,hRy0⟩:=hR.at_ 0 (by simp);simp only[aE,aK,aW,bg,bM]at y00 y10 y20 y30 y40 y50 hRy0;obtain⟨B0,d0,rfl,_⟩:=hRy0.form;subst hA0;obtain⟨b1,o1,a1,hA1,hb1,hP1,y01,y11,y21,y31,y41,y51,hRy1⟩:=hR.at_ 1 (by simp);simp only[aE,aK,aW,bg,bM]at y01 y11 y21 y31 y41 y51 hRy1;obtain⟨B1,d1,rfl,_⟩:=hRy1.form;injection hA1 with hA1;injection hA1 with hA1 hA2;subst hA1 hA2;have HY0:=G (aq y00 (aq y10 (aq y20 (aq y30 (aq y40 y50)))));have HRy0:=G hRy0;clear y00 y10 y20 y30 y40 y50 hRy0;have HY1:=G (aq y01 (aq y11 (aq y21 (aq y31 (aq y41 y51)))));have HRy1:=G hRy1;clear y01 y11 y21 y31 y41 y51 hRy1;have HC0:=G (show PS b w.heap.size w P #[.int .i64 3, .string (ag nm), .slice (some ⟨b0,o0,none⟩) 2 c, .slice B nb cb, .slice C nl cl] (.slice (some ⟨b0,o0,none⟩) 2 c) (.slice B nb cb) (.slice C nl cl) (.mk 3 nm [y,z] body els) l _ from⟨ax w 72 #[.int .i64 3, .string (ag nm), .slice (some ⟨b0,o0,none⟩) 2 c, .slice B nb cb, .slice C nl cl],hB.ext (O w _),hR.keep (.of_ext (O w _)) (fun _ hb _=>hb),hRb.keep (.of_ext (O w _)) (fun _ hb _=>hb),hRl.keep (.of_ext (O w _)) (fun _ hb _=>hb),aX (O w _) (aI hB.lt),hT.fb (aX (O w _) (aI hB.lt)),bC hB.lt,by decide,hP⟩);have hbc:=HC0.out.box.cell;clear hB hR hT hRb hRl;obtain⟨c1,Hc1⟩: ∃c,Hid (nm++[91]=c):=⟨_,G rfl⟩
 have hzc1:c1.length=nm.length+1:=by rw[<-Hc1.out,aa];(try rfl)
 have hsc1:ag nm++(⟨#[91]⟩:ByteArray)=ag c1:=by rw[<-Hc1.out];exact cd _ _
 have hmc1: ¬9223372036854775807<nm.length+1:=by omega
 have hkc1: ¬9223372036854775807<1+nm.length:=by omega
 have hqc1nm:(ag nm).size=nm.length:=aL _;have hqc1l:((⟨#[91]⟩:ByteArray)).size=1:=rfl;have Hzc1:=G hzc1;clear hzc1;go_enter func136,ntmps136;go_wp2_with fail;refine am 8 3 [] mixed (by kernel_rfl) trivial ?_;repeat (refine sx ?_ (fun w1 hU=> ?_) ?_;rotate_left;(focus have f1:=(HC0.out.ex hU.un).box.cell;have e0:=((HC0.out.ex hU.un).fb.keepP hP).cell (o0) hP0 hb0|>.trans HY0.out.1;have e1:=((HC0.out.ex hU.un).fb.keepP hP).cell (o0+1) hP0 hb0|>.trans HY0.out.2.1;have e2:=((HC0.out.ex hU.un).fb.keepP hP).cell (o0+2) hP0 hb0|>.trans HY0.out.2.2.1;have e3:=((HC0.out.ex hU.un).fb.keepP hP).cell (o0+3) hP0 hb0|>.trans HY0.out.2.2.2.1;have e4:=((HC0.out.ex hU.un).fb.keepP hP).cell (o0+4) hP0 hb0|>.trans HY0.out.2.2.2.2.1;have e5:=((HC0.out.ex hU.un).fb.keepP hP).cell (o0+5) hP0 hb0|>.trans HY0.out.2.2.2.2.2;clear hU;go_simp<;>with_reducible rfl);simp only[aU,aT,aS,aR,aQ])
 intro zz1 hzz1 hp;clear hp;simp only[ab,ap];have HC1:=G (HC0.out.ex hzz1.un);clear hzz1 hbc HC0;have hbc:=HC1.out.box.cell;go_wp2_with (first|(go_at_call 175;refine(d6 y hy c1 [93] P _ B0 _ d0 b l (HRy0.out.keep (HC1.out.fb.keepP hP) (fun _ hb _=>hb)) hP HC1.out.tab HC1.out.bu (by(try have a1:=Hzc1.out);(try have a2:=Hzc2.out);simp only[aa,ac,ah];omega)).mono ?_;rintro e u2 ⟨rfl,h1,h2⟩;have HC2:=G (HC1.out.wr h1 h2);clear h1 h2 HC1;clear hbc;have hbc:=HC2.out.box.cell;have e0:=(HC2.out.fb.keepP hP).cell (o0+6) hP1 hb1|>.trans HY1.out.1;have e1:=(HC2.out.fb.keepP hP).cell (o0+6+1) hP1 hb1|>.trans HY1.out.2.1;have e2:=(HC2.out.fb.keepP hP).cell (o0+6+2) hP1 hb1|>.trans HY1.out.2.2.1;have e3:=(HC2.out.fb.keepP hP).cell (o0+6+3) hP1 hb1|>.trans HY1.out.2.2.2.1;have e4:=(HC2.out.fb.keepP hP).cell (o0+6+4) hP1 hb1|>.trans HY1.out.2.2.2.2.1;have e5:=(HC2.out.fb.keepP hP).cell (o0+6+5) hP1 hb1|>.trans HY1.out.2.2.2.2.2)|(go_at_call 175;refine(d6 z hz [32,61,32] [59] P _ B1 _ d1 b (l++(c1++aY y++[93])) (HRy1.out.keep (HC2.out.fb.keepP hP) (fun _ hb _=>hb)) hP HC2.out.tab HC2.out.bu (by(try have a1:=Hzc1.out);(try have a2:=Hzc2.out);simp only[aa,ac,ah];omega)).mono ?_;rintro e u3 ⟨rfl,h1,h2⟩;have HC3:=G (HC2.out.wr h1 h2);clear h1 h2 HC2))
 go_end0
 exact⟨rfl,by rw[<-HS.out];have:=HC3.out.bu;rw[<-Hc1.out]at this;simpa[aA]using this,HC3.out.fb⟩
theorem Bq (nm:List UInt8) (body els:List St) (y:Ex) (hy:lJ y) (hbl:jW body) (P:Nat->Prop) (w:World) (A B C:Option Addr) (n c nb cb nl cl b i:Nat) (l:List UInt8) (hR:b8 w P (.slice A n c) [y]) (hRb:cM w P (.slice B nb cb) body) (hRl:cM w P (.slice C nl cl) els) (hP: ∀k,P k->k<b) (hT:dn w b) (hB:Bu w b l) (S:List UInt8) (hS:aZ (.mk 5 nm [y] body els) i=S) (hl:l.length+S.length<=1000000000):
  Calls prog 136 #[.pointer (some ⟨b,0,none⟩), .agg #[.int .i64 5, .string (ag nm), .slice A n c, .slice B nb cb, .slice C nl cl], .int .i64 (i:Int)] w fun e w'=>e= .returned (.tuple #[])/\Bu w' b (l++S)/\FB b w w':=by
 have HS:=G (show[119,104,105,108,101,32]++aY y++[32]++co i (a6 body (i+1))=S from by rw[<-hS];rfl);have hlen:6+(aY y).length+1+(co i (a6 body (i+1))).length=S.length:=by rw[<-HS.out];simp only[aa,ac,ah]
 clear hS;have hn:=hR.len;simp only[ac,ah]at hn;obtain rfl:n=1:=hn;obtain⟨b0,o0,a0,hA0,hb0,hP0,y00,y10,y20,y30,y40,y50,hRy0⟩:=hR.at_ 0 (by simp);simp only[aE,aK,aW,bg,bM]at y00 y10 y20 y30 y40 y50 hRy0;obtain⟨B0,d0,rfl,_⟩:=hRy0.form;have HY0:=G (aq y00 (aq y10 (aq y20 (aq y30 (aq y40 y50)))));have HRy0:=G hRy0;clear y00 y10 y20 y30 y40 y50 hRy0;subst hA0;have HC0:=G (show PS b w.heap.size w P #[.int .i64 5, .string (ag nm), .slice (some ⟨b0,o0,none⟩) 1 c, .slice B nb cb, .slice C nl cl] (.slice (some ⟨b0,o0,none⟩) 1 c) (.slice B nb cb) (.slice C nl cl) (.mk 5 nm [y] body els) l _ from⟨ax w 72 #[.int .i64 5, .string (ag nm), .slice (some ⟨b0,o0,none⟩) 1 c, .slice B nb cb, .slice C nl cl],hB.ext (O w _),hR.keep (.of_ext (O w _)) (fun _ hb _=>hb),hRb.keep (.of_ext (O w _)) (fun _ hb _=>hb),hRl.keep (.of_ext (O w _)) (fun _ hb _=>hb),aX (O w _) (aI hB.lt),hT.fb (aX (O w _) (aI hB.lt)),bC hB.lt,by decide,hP⟩);have hbc:=HC0.out.box.cell;clear hB hR hT hRb hRl;unfold jW at hbl;go_enter func136,ntmps136;have e0:=(HC0.out.fb.keepP hP).cell (o0) hP0 hb0|>.trans HY0.out.1;have e1:=(HC0.out.fb.keepP hP).cell (o0+1) hP0 hb0|>.trans HY0.out.2.1;have e2:=(HC0.out.fb.keepP hP).cell (o0+2) hP0 hb0|>.trans HY0.out.2.2.1;have e3:=(HC0.out.fb.keepP hP).cell (o0+3) hP0 hb0|>.trans HY0.out.2.2.2.1;have e4:=(HC0.out.fb.keepP hP).cell (o0+4) hP0 hb0|>.trans HY0.out.2.2.2.2.1;have e5:=(HC0.out.fb.keepP hP).cell (o0+5) hP0 hb0|>.trans HY0.out.2.2.2.2.2;go_wp2_with (first|(go_at_call 175;refine(d6 y hy [119,104,105,108,101,32] [32] P _ B0 _ d0 b l (HRy0.out.keep (HC0.out.fb.keepP hP) (fun _ hb _=>hb)) hP HC0.out.tab HC0.out.bu (by(try have a1:=Hzc1.out);(try have a2:=Hzc2.out);simp only[aa,ac,ah];omega)).mono ?_;rintro e u1 ⟨rfl,h1,h2⟩;have HC1:=G (HC0.out.wr h1 h2);clear h1 h2 HC0;clear hbc;have hbc:=HC1.out.box.cell)|(go_at_call 94;refine(hbl P _ B nb cb b i (l++([119,104,105,108,101,32]++aY y++[32])) HC1.out.rb hP HC1.out.tab HC1.out.bu (by(try have a1:=Hzc1.out);(try have a2:=Hzc2.out);simp only[aa,ac,ah];omega)).mono ?_;rintro e u2 ⟨rfl,h1,h2⟩;have HC2:=G (HC1.out.wr h1 h2);clear h1 h2 HC1))
 go_end0
 exact⟨rfl,by rw[<-HS.out];have:=HC2.out.bu;simpa[aA]using this,HC2.out.fb⟩
theorem Br (nm:List UInt8) (body els:List St) (xs:List Ex) (hch:ru (.mk 4 nm xs body els)) (P:Nat->Prop) (w:World) (A B C:Option Addr) (n c nb cb nl cl b i:Nat) (l:List UInt8) (hR:b8 w P (.slice A n c) xs) (hRb:cM w P (.slice B nb cb) body) (hRl:cM w P (.slice C nl cl) els) (hP: ∀k,P k->k<b) (hT:dn w b) (hB:Bu w b l) (S:List UInt8) (hS:aZ (.mk 4 nm xs body els) i=S) (hl:l.length+S.length<=1000000000):
  Calls prog 136 #[.pointer (some ⟨b,0,none⟩), .agg #[.int .i64 4, .string (ag nm), .slice A n c, .slice B nb cb, .slice C nl cl], .int .i64 (i:Int)] w fun e w'=>e= .returned (.tuple #[])/\Bu w' b (l++S)/\FB b w w':=by
 unfold ru at hch;have HC0:=G (show PS b w.heap.size w P #[.int .i64 4, .string (ag nm), .slice A n c, .slice B nb cb, .slice C nl cl] (.slice A n c) (.slice B nb cb) (.slice C nl cl) (.mk 4 nm xs body els) l _ from⟨ax w 72 #[.int .i64 4, .string (ag nm), .slice A n c, .slice B nb cb, .slice C nl cl],hB.ext (O w _),hR.keep (.of_ext (O w _)) (fun _ hb _=>hb),hRb.keep (.of_ext (O w _)) (fun _ hb _=>hb),hRl.keep (.of_ext (O w _)) (fun _ hb _=>hb),aX (O w _) (aI hB.lt),hT.fb (aX (O w _) (aI hB.lt)),bC hB.lt,by decide,hP⟩);have hbc:=HC0.out.box.cell;clear hB hR hT hRb hRl;go_enter func136,ntmps136;go_wp2_with (go_at_call 176;refine(hch P _ A B C n c nb cb nl cl b i l HC0.out.re HC0.out.rb HC0.out.rl hP HC0.out.tab HC0.out.bu (by rw[hS];exact hl)).mono ?_;rintro e u1 ⟨rfl,h1,h2⟩;have HC1:=G (HC0.out.wr h1 h2);clear h1 h2 HC0)
 go_end0
 exact⟨rfl,by rw[<-hS];exact HC1.out.bu,HC1.out.fb⟩
end
end Go.Proofs.YtddomeddabfinaaGreatDoor
