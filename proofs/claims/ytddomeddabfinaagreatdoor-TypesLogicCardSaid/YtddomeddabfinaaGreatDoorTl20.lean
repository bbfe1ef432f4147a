/-
  Parts of the proof: PrB PrC.
-/
import Derived.Lib.AppendIntMem
import Derived.Test.YtddomeddabfinaaGreatDoorTl17
import Derived.Test.YtddomeddabfinaaGreatDoorTl18
import Derived.Test.YtddomeddabfinaaGreatDoorTl19
set_option maxRecDepth 100000
set_option maxHeartbeats 8000000
set_option linter.unusedVariables false
set_option linter.unusedSimpArgs false
set_option linter.unusedSectionVars false
namespace Go.Proofs.YtddomeddabfinaaGreatDoor
open Go.Proofs.Tryz
open Go.RowKit
def joinS (sep:List UInt8):List (List UInt8)->List UInt8
 | []=>[]
 |x::r=>x++r.flatMap (fun y=>sep++y)
theorem joinS_snoc (sep:List UInt8) (l:List (List UInt8)) (x:List UInt8):joinS sep (l++[x])=joinS sep l++((if l=[]then[]else sep)++x):=by
 cases l with
 |nil=>simp[joinS]
 |cons y r=>simp[joinS]
def par (b:Bool) (s:List UInt8):List UInt8:=if b then 40::(s++[41])else s
def shapeE (k:Int) (op nm tx:List UInt8) (v:Int) (ps:List Int) (ss:List (List UInt8)):List UInt8:=
 if k=1 then decL v.toNat
 else if k=2 then quoteL tx
 else if k=3 then nm
 else if k=4 then nm++[91]++ss.headD []++[93]
 else if k=5 then nm++[40]++joinS [44,32] ss++[41]
 else if k=6 then op++par (decide (ps.headD 0<7)) (ss.headD [])
 else if k=7 then par (decide (ps.headD 0<lev op)) (ss.headD [])++([32]++op++[32])++par (decide (ps.tail.headD 0<=lev op)) (ss.tail.headD [])
 else[]
mutual
def srcE:Ex->List UInt8| .mk k op nm tx v a=>shapeE k op nm tx v (a.map Ex.prec) (srcs a)
def srcs:List Ex->List (List UInt8)| []=>[]|x::r=>srcE x::srcs r
end
theorem srcs_map: ∀l,srcs l=l.map srcE
 | []=>rfl
 |x::r=>by rw[srcs,srcs_map r];rfl
theorem dec_decL: ∀n,Lib.decDigits n=decL n:=fun n=>by
 induction n using Nat.strongRecOn with
 | _ n ih=>
  rw[Lib.decDigits,decL];split
  ·rfl
  ·rw[ih (n/10) (by omega)]
theorem quoteL_len (l:List UInt8):(quoteL l).length<=2*l.length+2:=by
 have:=(qescL_length l).2;simp only[quoteL,List.length_cons,List.length_append,List.length_nil];omega
theorem decL_len {v:Int} (h:v<=2147483647):(decL v.toNat).length<=10:=decL_length 9 v.toNat (by omega)
theorem par_len (b:Bool) (s:List UInt8):(par b s).length<=s.length+2:=by
 cases b<;>simp[par]
theorem joinS_len (sep:List UInt8): ∀l:List (List UInt8),(joinS sep l).length<=(l.map fun s=>s.length+sep.length).sum
 | []=>by simp[joinS]
 |x::r=>by
  have:(r.flatMap fun y=>sep++y).length=(r.map fun s=>s.length+sep.length).sum:=by
   rw[List.length_flatMap]
   congr 1
   apply List.map_congr_left;intro y _;simp;omega
  simp only[joinS,List.length_append,List.map_cons,List.sum_cons,this];omega
theorem kp_trans {P:Nat->Prop} {a b c:World} (h:KeepP P a b) (k:KeepP P b c):KeepP P a c:=⟨Nat.le_trans h.1 k.1,fun x hP hx=>(k.2 x hP (Nat.lt_of_lt_of_le hx h.1)).trans (h.2 x hP hx)⟩
def TabW (w:World) (b:Nat):Prop:=Lib.TabIs prog w "internal/strconv.uint64pow10" .u64 Lib.pow10Tab/\2<b
theorem TabW.fb {w w':World} {b:Nat} (h:TabW w b) (hF:FB b w w'):TabW w' b:=by
 refine⟨?_,h.2⟩;have h1:=h.1;have hg:prog.globalNamed "internal/strconv.uint64pow10" =some 2:=by kernel_rfl
 have hb:=hF.below.block _ h.2;unfold Lib.TabIs World.var? at h1⊢;rw[hg]at h1⊢;simp only[Option.bind_some]at h1⊢;rw[hb];exact h1
theorem itoa_any (n:Int) (h0:0<=n) (h1:n<=9223372036854775807) (w:World) (b:Nat) (ht:TabW w b):Calls prog 92 #[.int .i64 n] w fun e w'=>e= .returned (.string (str (decL n.toNat)))/\Ext w w':=by
 refine(Tryz.strconv_Itoa n (by omega) h1 w ht.1).mono ?_;rintro e w' ⟨rfl,k,os,rfl⟩;have:Lib.itoa n=decL n.toNat:=by unfold Lib.itoa;rw[if_neg (by omega),dec_decL]
 rw[this];exact⟨rfl,Lib.below_grow _ w (Nat.le_refl _) k os⟩
structure PC (b px:Nat) (w0:World) (P:Nat->Prop) (t:TypeId) (cs:Array Value) (v:Value) (xs:List Ex) (l:List UInt8) (W:World):Prop where
 box:Blk W px t cs
 bu:Bu W b l
 rd:RdE W P v xs
 fb:FB b w0 W
 tab:TabW W b
 ne:px≠b
 tt:t≠5
 hP: ∀k,P k->k<b
section
variable {b px:Nat} {w0 W W':World} {P:Nat->Prop} {t:TypeId} {cs:Array Value} {v:Value} {xs:List Ex} {l l':List UInt8}
theorem PC.wr (h:PC b px w0 P t cs v xs l W) (hB:Bu W' b l') (hF:FB b W W'):PC b px w0 P t cs v xs l' W':=
 ⟨hF.keep _ _ _ h.ne h.tt h.box,hB,h.rd.keep (hF.keepP h.hP) (fun _ hb _=>hb),h.fb.trans hF,h.tab.fb hF,h.ne,h.tt,h.hP⟩
theorem PC.ex (h:PC b px w0 P t cs v xs l W) (hE:Ext W W'):PC b px w0 P t cs v xs l W':=h.wr (h.bu.ext hE) (FB.of_ext hE (Nat.le_of_lt h.bu.lt))
end
theorem fb_un {b:Nat} {w w':World} (h:FB b w.drew w'):FB b w w':=⟨⟨h.below.os,h.below.tape,h.below.output,h.below.size,h.below.block⟩,h.keep⟩
section
variable {P:Program} {ops:Array Oper} {Q:Exit->Act->World->Prop}
theorem wp_region_fb {id:Nat} {a:Act} {w:World} (b m f:Nat) (l:List Ent) (x:Nat) (hm:P.follows .mixedOrders=true) (hok:okB ops m a.tmps.size=true) (hbw:b<=w.heap.size)
  (hs:stabL Ext l) (hx:stabX x (fun a c=>b<=a.heap.size->FB b a c) l)
  (h:SeqW P Q ops f (tabOf l) (some x) (fun _=>false) Ext (fun a c=>b<=a.heap.size->FB b a c) w.drew (fun a Φ=> ∀w',FB b w w'->(∀p∈Φ,p.2 w')->wpList P ops Q (ops.toList.drop m) a w') (ops.toList.take m) 0 a []):(Code.region id ops true).wp P Q a w:=by
 refine wp_region_late m f (tabOf l) (some x) Ext (fun a c=>b<=a.heap.size->FB b a c) hm hok Ext.refl (fun a c d h1 h2 ha=>(h1 ha).trans (h2 (Nat.le_trans ha (h1 ha).below.size))) (fun a c h ha=>FB.of_ext h ha) (fun _ _ _=>Ext.trans) hs.out hx.out ?_;refine SeqW.fin (fun a Φ h w' h1 h2=>h w' ?_ h2) _ _ _ _ h;have h3:=h1 hbw;exact⟨⟨h3.below.os,h3.below.tape,h3.below.output,h3.below.size,h3.below.block⟩,h3.keep⟩
end
def PrX (x:Ex):Prop:= ∀(P:Nat->Prop) (w:World) (A:Option Addr) (n c b:Nat) (l:List UInt8),RdE w P (.slice A n c) x.args->(∀k,P k->k<b)->TabW w b->Bu w b l->l.length+(srcE x).length<=1000000000->
 Calls prog 201 #[.pointer (some ⟨b,0,none⟩), .agg #[.int .i64 x.k, .string (str x.op), .string (str x.nm), .string (str x.tx), .int .i64 x.v, .slice A n c]] w fun e w'=>e= .returned (.tuple #[])/\Bu w' b (l++srcE x)/\FB b w w'
theorem opd_any (x:Ex) (hx:PrX x) (pb:Bool) (P:Nat->Prop) (w:World) (A:Option Addr) (n c b:Nat) (l:List UInt8) (hR:RdE w P (.slice A n c) x.args) (hP: ∀k,P k->k<b) (hT:TabW w b) (hB:Bu w b l) (hl:l.length+(par pb (srcE x)).length<=1000000000):
  Calls prog 216 #[.pointer (some ⟨b,0,none⟩), .agg #[.int .i64 x.k, .string (str x.op), .string (str x.nm), .string (str x.tx), .int .i64 x.v, .slice A n c], .bool pb] w fun e w'=>e= .returned (.tuple #[])/\Bu w' b (l++par pb (srcE x))/\FB b w w':=by
 have HX:=hide hx;clear hx;unfold PrX at HX;generalize srcE x=S at*;generalize hargs:x.args=xs at*;generalize x.k=k at*;generalize x.op=op at*;generalize x.nm=nm at*;generalize x.tx=tx at*;generalize x.v=v at*;have HC0:=hide (show PC b w.heap.size w P 70 #[.int .i64 k, .string (str op), .string (str nm), .string (str tx), .int .i64 v, .slice A n c] (.slice A n c) xs l _ from⟨Blk.new w 70 #[.int .i64 k, .string (str op), .string (str nm), .string (str tx), .int .i64 v, .slice A n c],hB.ext (Ext.alloc w _),hR.keep (.of_ext (Ext.alloc w _)) (fun _ hb _=>hb),FB.of_ext (Ext.alloc w _) (Nat.le_of_lt hB.lt),hT.fb (FB.of_ext (Ext.alloc w _) (Nat.le_of_lt hB.lt)),Nat.ne_of_gt hB.lt,by decide,hP⟩);have hbc:=HC0.out.box.cell;clear hB hR hT
 cases pb with
 |true=>
  have hl:l.length+(S.length+2)<=1000000000:=by simpa[par]using hl
  go_enter func216,ntmps216;go_wp2_with (first|(go_at_call 91;refine(pws_any b l [40] _ HC0.out.bu (by simp only[List.length_cons,List.length_nil];omega)).mono ?_;rintro e u1 ⟨rfl,h1,h2⟩;have HC1:=hide (HC0.out.wr h1 h2);clear h1 h2 HC0;clear hbc;have hbc:=HC1.out.box.cell)|(go_at_call 201;refine(HX.out P _ A n c b (l++[40]) HC1.out.rd hP HC1.out.tab HC1.out.bu (by simp only[List.length_append,List.length_cons,List.length_nil];omega)).mono ?_;rintro e u2 ⟨rfl,h1,h2⟩;have HC2:=hide (HC1.out.wr h1 h2);clear h1 h2 HC1)|(go_at_call 91;refine(pws_any b (l++[40]++S) [41] _ HC2.out.bu (by simp only[List.length_append,List.length_cons,List.length_nil];omega)).mono ?_;rintro e u3 ⟨rfl,h1,h2⟩;have HC3:=hide (HC2.out.wr h1 h2);clear h1 h2 HC2))
  go_end0
  exact⟨rfl,by have:=HC3.out.bu;simpa[par,List.append_assoc]using this,HC3.out.fb⟩
 |false=>
  have hl:l.length+S.length<=1000000000:=hl;go_enter func216,ntmps216;go_wp2_with (go_at_call 201;refine(HX.out P _ A n c b l HC0.out.rd hP HC0.out.tab HC0.out.bu (by omega)).mono ?_;rintro e u2 ⟨rfl,h1,h2⟩;have HC2:=hide (HC0.out.wr h1 h2);clear h1 h2 HC0)
  go_end0
  exact⟨rfl,HC2.out.bu,HC2.out.fb⟩
theorem pr_1 (op nm tx:List UInt8) (v:Int) (xs:List Ex) (h0:0<=v) (h1:v<=2147483647) (P:Nat->Prop) (w:World) (A:Option Addr) (n c b:Nat) (l:List UInt8) (hR:RdE w P (.slice A n c) xs) (hP: ∀k,P k->k<b) (hT:TabW w b) (hB:Bu w b l) (S:List UInt8) (hS:srcE (.mk 1 op nm tx v xs)=S) (hl:l.length+S.length<=1000000000):
  Calls prog 201 #[.pointer (some ⟨b,0,none⟩), .agg #[.int .i64 1, .string (str op), .string (str nm), .string (str tx), .int .i64 v, .slice A n c]] w fun e w'=>e= .returned (.tuple #[])/\Bu w' b (l++S)/\FB b w w':=by
 have HS:=hide (show decL v.toNat=S from by rw[<-hS];rfl);have hlen:(decL v.toNat).length=S.length:=by rw[HS.out]
 clear hS;have HC0:=hide (show PC b w.heap.size w P 70 #[.int .i64 1, .string (str op), .string (str nm), .string (str tx), .int .i64 v, .slice A n c] (.slice A n c) xs l _ from⟨Blk.new w 70 #[.int .i64 1, .string (str op), .string (str nm), .string (str tx), .int .i64 v, .slice A n c],hB.ext (Ext.alloc w _),hR.keep (.of_ext (Ext.alloc w _)) (fun _ hb _=>hb),FB.of_ext (Ext.alloc w _) (Nat.le_of_lt hB.lt),hT.fb (FB.of_ext (Ext.alloc w _) (Nat.le_of_lt hB.lt)),Nat.ne_of_gt hB.lt,by decide,hP⟩);have hbc:=HC0.out.box.cell;clear hB hR hT;have HIt:=hide (fun w h=>itoa_any v h0 (by omega) w b h);generalize decL v.toNat=D at*;go_enter func201,ntmps201;go_wp2_with fail;refine wp_region_ext 6 3 [(5,fun x=>x= .string (str D),fun _ _=>True)] mixed (by kernel_rfl) ⟨fun _ _ _ _ _=>trivial,trivial⟩ ?_;repeat (refine sx ?_ (fun w1 hU=> ?_) ?_;rotate_left;(focus have f1:=(HC0.out.ex hU.un).box.cell;clear hU;go_simp<;>with_reducible rfl);simp only[pq0,pq1,pq2,pq3,pq4])
 refine so (fun w6 hU hp K hK=> ?_) ?_
 ·have hT6:=(HC0.out.ex hU.un).tab;clear hp hU;go_simp;refine(HIt.out w6 hT6).mono ?_;rintro e w7 ⟨rfl,hE⟩;exact hK _ _ hE rfl trivial
 rintro _ rfl;simp only[pq0,pq1,pq2,pq3,pq4];repeat (refine sx ?_ (fun w1 hU=> ?_) ?_;rotate_left;(focus have f1:=(HC0.out.ex hU.un).box.cell;clear hU;go_simp<;>with_reducible rfl);simp only[pq0,pq1,pq2,pq3,pq4])
 intro z1 hz1 hp;clear hp;simp only[List.drop_succ_cons,List.drop_zero];have HC1:=hide (HC0.out.ex hz1.un);clear hz1 hbc HC0;have hbc:=HC1.out.box.cell;go_wp2_with ((go_at_call 91;refine(pws_any b l D _ HC1.out.bu (by omega)).mono ?_;rintro e u2 ⟨rfl,h1,h2⟩;have HC2:=hide (HC1.out.wr h1 h2);clear h1 h2 HC1))
 go_end0
 exact⟨rfl,by rw[<-HS.out];have:=HC2.out.bu;exact this,HC2.out.fb⟩
theorem pr_2 (op nm tx:List UInt8) (v:Int) (xs:List Ex) (h0:tx.length<=128) (P:Nat->Prop) (w:World) (A:Option Addr) (n c b:Nat) (l:List UInt8) (hR:RdE w P (.slice A n c) xs) (hP: ∀k,P k->k<b) (hT:TabW w b) (hB:Bu w b l) (S:List UInt8) (hS:srcE (.mk 2 op nm tx v xs)=S) (hl:l.length+S.length<=1000000000):
  Calls prog 201 #[.pointer (some ⟨b,0,none⟩), .agg #[.int .i64 2, .string (str op), .string (str nm), .string (str tx), .int .i64 v, .slice A n c]] w fun e w'=>e= .returned (.tuple #[])/\Bu w' b (l++S)/\FB b w w':=by
 have HS:=hide (show quoteL tx=S from by rw[<-hS];rfl);have hlen:(quoteL tx).length=S.length:=by rw[HS.out]
 clear hS;have HC0:=hide (show PC b w.heap.size w P 70 #[.int .i64 2, .string (str op), .string (str nm), .string (str tx), .int .i64 v, .slice A n c] (.slice A n c) xs l _ from⟨Blk.new w 70 #[.int .i64 2, .string (str op), .string (str nm), .string (str tx), .int .i64 v, .slice A n c],hB.ext (Ext.alloc w _),hR.keep (.of_ext (Ext.alloc w _)) (fun _ hb _=>hb),FB.of_ext (Ext.alloc w _) (Nat.le_of_lt hB.lt),hT.fb (FB.of_ext (Ext.alloc w _) (Nat.le_of_lt hB.lt)),Nat.ne_of_gt hB.lt,by decide,hP⟩);have hbc:=HC0.out.box.cell;clear hB hR hT;have HIt:=hide (fun w=>quote_any tx (by omega) w);generalize quoteL tx=D at*;go_enter func201,ntmps201;go_wp2_with fail;refine wp_region_ext 6 3 [(5,fun x=>x= .string (str D),fun _ _=>True)] mixed (by kernel_rfl) ⟨fun _ _ _ _ _=>trivial,trivial⟩ ?_;repeat (refine sx ?_ (fun w1 hU=> ?_) ?_;rotate_left;(focus have f1:=(HC0.out.ex hU.un).box.cell;clear hU;go_simp<;>with_reducible rfl);simp only[pq0,pq1,pq2,pq3,pq4])
 refine so (fun w6 hU hp K hK=> ?_) ?_
 ·have hT6:=(HC0.out.ex hU.un).tab;clear hp hU;go_simp;refine(HIt.out w6).mono ?_;rintro e w7 ⟨rfl,hE⟩;exact hK _ _ hE rfl trivial
 rintro _ rfl;simp only[pq0,pq1,pq2,pq3,pq4];repeat (refine sx ?_ (fun w1 hU=> ?_) ?_;rotate_left;(focus have f1:=(HC0.out.ex hU.un).box.cell;clear hU;go_simp<;>with_reducible rfl);simp only[pq0,pq1,pq2,pq3,pq4])
 intro z1 hz1 hp;clear hp;simp only[List.drop_succ_cons,List.drop_zero];have HC1:=hide (HC0.out.ex hz1.un);clear hz1 hbc HC0;have hbc:=HC1.out.box.cell;go_wp2_with ((go_at_call 91;refine(pws_any b l D _ HC1.out.bu (by omega)).mono ?_;rintro e u2 ⟨rfl,h1,h2⟩;have HC2:=hide (HC1.out.wr h1 h2);clear h1 h2 HC1))
 go_end0
 exact⟨rfl,by rw[<-HS.out];have:=HC2.out.bu;exact this,HC2.out.fb⟩
theorem pr_3 (op nm tx:List UInt8) (v:Int) (xs:List Ex) (P:Nat->Prop) (w:World) (A:Option Addr) (n c b:Nat) (l:List UInt8) (hR:RdE w P (.slice A n c) xs) (hP: ∀k,P k->k<b) (hT:TabW w b) (hB:Bu w b l) (S:List UInt8) (hS:srcE (.mk 3 op nm tx v xs)=S) (hl:l.length+S.length<=1000000000):
  Calls prog 201 #[.pointer (some ⟨b,0,none⟩), .agg #[.int .i64 3, .string (str op), .string (str nm), .string (str tx), .int .i64 v, .slice A n c]] w fun e w'=>e= .returned (.tuple #[])/\Bu w' b (l++S)/\FB b w w':=by
 have HS:=hide (show nm=S from by rw[<-hS];rfl);have hlen:nm.length=S.length:=by rw[HS.out]
 clear hS;have HC0:=hide (show PC b w.heap.size w P 70 #[.int .i64 3, .string (str op), .string (str nm), .string (str tx), .int .i64 v, .slice A n c] (.slice A n c) xs l _ from⟨Blk.new w 70 #[.int .i64 3, .string (str op), .string (str nm), .string (str tx), .int .i64 v, .slice A n c],hB.ext (Ext.alloc w _),hR.keep (.of_ext (Ext.alloc w _)) (fun _ hb _=>hb),FB.of_ext (Ext.alloc w _) (Nat.le_of_lt hB.lt),hT.fb (FB.of_ext (Ext.alloc w _) (Nat.le_of_lt hB.lt)),Nat.ne_of_gt hB.lt,by decide,hP⟩);have hbc:=HC0.out.box.cell;clear hB hR hT;go_enter func201,ntmps201;go_wp2_with fail;refine wp_region_ext 5 3 [] mixed (by kernel_rfl) trivial ?_;repeat (refine sx ?_ (fun w1 hU=> ?_) ?_;rotate_left;(focus have f1:=(HC0.out.ex hU.un).box.cell;clear hU;go_simp<;>with_reducible rfl);simp only[pq0,pq1,pq2,pq3,pq4])
 intro z1 hz1 hp;clear hp;simp only[List.drop_succ_cons,List.drop_zero];have HC1:=hide (HC0.out.ex hz1.un);clear hz1 hbc HC0;have hbc:=HC1.out.box.cell;go_wp2_with ((go_at_call 91;refine(pws_any b l nm _ HC1.out.bu (by omega)).mono ?_;rintro e u2 ⟨rfl,h1,h2⟩;have HC2:=hide (HC1.out.wr h1 h2);clear h1 h2 HC1))
 go_end0
 exact⟨rfl,by rw[<-HS.out];have:=HC2.out.bu;exact this,HC2.out.fb⟩
theorem pr_4 (op nm tx:List UInt8) (v:Int) (y:Ex) (hy:PrX y) (P:Nat->Prop) (w:World) (A:Option Addr) (n c b:Nat) (l:List UInt8) (hR:RdE w P (.slice A n c) [y]) (hP: ∀k,P k->k<b) (hT:TabW w b) (hB:Bu w b l) (S:List UInt8) (hS:srcE (.mk 4 op nm tx v [y])=S) (hl:l.length+S.length<=1000000000):
  Calls prog 201 #[.pointer (some ⟨b,0,none⟩), .agg #[.int .i64 4, .string (str op), .string (str nm), .string (str tx), .int .i64 v, .slice A n c]] w fun e w'=>e= .returned (.tuple #[])/\Bu w' b (l++S)/\FB b w w':=by
 have hn:=hR.len;have HX:=hide hy;unfold PrX at HX;have HS:=hide (show nm++[91]++srcE y++[93]=S from by rw[<-hS];rfl);have hlen:nm.length+1+(srcE y).length+1=S.length:=by rw[<-HS.out];simp only[List.length_append,List.length_cons,List.length_nil]
 clear hS hy;simp only[List.length_cons,List.length_nil]at hn;obtain rfl:n=1:=hn;obtain⟨b0,o0,a0,hA0,hb0,hP0,y00,y10,y20,y30,y40,y50,hRy0⟩:=hR.at_ 0 (by simp);simp only[List.getElem_cons_zero,List.getElem_cons_succ,Nat.zero_mul,Nat.add_zero,Nat.one_mul]at y00 y10 y20 y30 y40 y50 hRy0;obtain⟨B0,d0,rfl,_⟩:=hRy0.form;have HY0:=hide (And.intro y00 (And.intro y10 (And.intro y20 (And.intro y30 (And.intro y40 y50)))));have HRy0:=hide hRy0;clear y00 y10 y20 y30 y40 y50 hRy0;have HC0:=hide (show PC b w.heap.size w P 70 #[.int .i64 4, .string (str op), .string (str nm), .string (str tx), .int .i64 v, .slice A 1 c] (.slice A 1 c) [y] l _ from⟨Blk.new w 70 #[.int .i64 4, .string (str op), .string (str nm), .string (str tx), .int .i64 v, .slice A 1 c],hB.ext (Ext.alloc w _),hR.keep (.of_ext (Ext.alloc w _)) (fun _ hb _=>hb),FB.of_ext (Ext.alloc w _) (Nat.le_of_lt hB.lt),hT.fb (FB.of_ext (Ext.alloc w _) (Nat.le_of_lt hB.lt)),Nat.ne_of_gt hB.lt,by decide,hP⟩);have hbc:=HC0.out.box.cell;clear hB hR hT;obtain⟨c1,Hc1⟩: ∃c,Hid (nm++[91]=c):=⟨_,hide rfl⟩
 have hzc1:c1.length=nm.length+1:=by rw[<-Hc1.out,List.length_append];rfl
 have hsc1:str nm++(⟨#[91]⟩:ByteArray)=str c1:=by rw[<-Hc1.out];exact str_app _ _
 have hmc1: ¬9223372036854775807<nm.length+1:=by omega
 have hkc1: ¬9223372036854775807<1+nm.length:=by omega
 have hqc1nm:(str nm).size=nm.length:=str_size _;have hqc1l:((⟨#[91]⟩:ByteArray)).size=1:=rfl;subst hA0;generalize srcE y=Sy at*;go_enter func201,ntmps201;go_wp2_with fail;refine wp_region_ext 6 3 [] mixed (by kernel_rfl) trivial ?_;repeat (refine sx ?_ (fun w1 hU=> ?_) ?_;rotate_left;(focus have f1:=(HC0.out.ex hU.un).box.cell;clear hU;go_simp<;>with_reducible rfl);simp only[pq0,pq1,pq2,pq3,pq4])
 intro z1 hz1 hp;clear hp;simp only[List.drop_succ_cons,List.drop_zero];have HC1:=hide (HC0.out.ex hz1.un);clear hz1 hbc HC0;have hbc:=HC1.out.box.cell;go_wp2_with (first|(go_at_call 91;refine(pws_any b l c1 _ HC1.out.bu (by omega)).mono ?_;rintro e u2 ⟨rfl,h1,h2⟩;have HC2:=hide (HC1.out.wr h1 h2);clear h1 h2 HC1;clear hbc;have hbc:=HC2.out.box.cell;have e0:=(HC2.out.fb.keepP hP).cell (o0) hP0 hb0|>.trans HY0.out.1;have e1:=(HC2.out.fb.keepP hP).cell (o0+1) hP0 hb0|>.trans HY0.out.2.1;have e2:=(HC2.out.fb.keepP hP).cell (o0+2) hP0 hb0|>.trans HY0.out.2.2.1;have e3:=(HC2.out.fb.keepP hP).cell (o0+3) hP0 hb0|>.trans HY0.out.2.2.2.1;have e4:=(HC2.out.fb.keepP hP).cell (o0+4) hP0 hb0|>.trans HY0.out.2.2.2.2.1;have e5:=(HC2.out.fb.keepP hP).cell (o0+5) hP0 hb0|>.trans HY0.out.2.2.2.2.2)|(go_at_call 201;refine(HX.out P _ B0 _ d0 b (l++c1) (HRy0.out.keep (HC2.out.fb.keepP hP) (fun _ hb _=>hb)) hP HC2.out.tab HC2.out.bu (by simp only[List.length_append];omega)).mono ?_;rintro e u3 ⟨rfl,h1,h2⟩;have HC3:=hide (HC2.out.wr h1 h2);clear h1 h2 HC2;clear e0 e1 e2 e3 e4 e5)|(go_at_call 91;refine(pws_any b (l++c1++Sy) [93] _ HC3.out.bu (by simp only[List.length_append,List.length_cons,List.length_nil];omega)).mono ?_;rintro e u4 ⟨rfl,h1,h2⟩;have HC4:=hide (HC3.out.wr h1 h2);clear h1 h2 HC3))
 go_end0
 exact⟨rfl,by rw[<-HS.out];have:=HC4.out.bu;rw[<-Hc1.out]at this;simpa[List.append_assoc]using this,HC4.out.fb⟩
theorem pr_5 (op nm tx:List UInt8) (v:Int) (xs:List Ex) (hx: ∀y,y∈xs->PrX y) (h4:xs.length<=4) (P:Nat->Prop) (w:World) (A:Option Addr) (n c b:Nat) (l:List UInt8) (hR:RdE w P (.slice A n c) xs) (hP: ∀k,P k->k<b) (hT:TabW w b) (hB:Bu w b l) (S:List UInt8) (hS:srcE (.mk 5 op nm tx v xs)=S) (hl:l.length+S.length<=1000000000):
  Calls prog 201 #[.pointer (some ⟨b,0,none⟩), .agg #[.int .i64 5, .string (str op), .string (str nm), .string (str tx), .int .i64 v, .slice A n c]] w fun e w'=>e= .returned (.tuple #[])/\Bu w' b (l++S)/\FB b w w':=by
 have hn:=hR.len;have HX:=hide hx;have HS:=hide (show nm++[40]++joinS [44,32] (srcs xs)++[41]=S from by rw[<-hS];rfl);have hlen:nm.length+1+(joinS [44,32] (srcs xs)).length+1=S.length:=by rw[<-HS.out];simp only[List.length_append,List.length_cons,List.length_nil]
 have HN:=hide hn;have hn4:(n:Int)<=4:=by omega
 clear hS hx hn;have HC0:=hide (show PC b w.heap.size w P 70 #[.int .i64 5, .string (str op), .string (str nm), .string (str tx), .int .i64 v, .slice A n c] (.slice A n c) xs l _ from⟨Blk.new w 70 #[.int .i64 5, .string (str op), .string (str nm), .string (str tx), .int .i64 v, .slice A n c],hB.ext (Ext.alloc w _),hR.keep (.of_ext (Ext.alloc w _)) (fun _ hb _=>hb),FB.of_ext (Ext.alloc w _) (Nat.le_of_lt hB.lt),hT.fb (FB.of_ext (Ext.alloc w _) (Nat.le_of_lt hB.lt)),Nat.ne_of_gt hB.lt,by decide,hP⟩);have hbc:=HC0.out.box.cell;clear hB hR hT;obtain⟨c1,Hc1⟩: ∃c,Hid (nm++[40]=c):=⟨_,hide rfl⟩
 have hzc1:c1.length=nm.length+1:=by rw[<-Hc1.out,List.length_append];rfl
 have hsc1:str nm++(⟨#[40]⟩:ByteArray)=str c1:=by rw[<-Hc1.out];exact str_app _ _
 have hmc1: ¬9223372036854775807<nm.length+1:=by omega
 have hkc1: ¬9223372036854775807<1+nm.length:=by omega
 have hqc1nm:(str nm).size=nm.length:=str_size _;have hqc1l:((⟨#[40]⟩:ByteArray)).size=1:=rfl;go_enter func201,ntmps201;go_wp2_with fail;refine wp_region_ext 6 3 [] mixed (by kernel_rfl) trivial ?_;repeat (refine sx ?_ (fun w1 hU=> ?_) ?_;rotate_left;(focus have f1:=(HC0.out.ex hU.un).box.cell;clear hU;go_simp<;>with_reducible rfl);simp only[pq0,pq1,pq2,pq3,pq4])
 intro z1 hz1 hp;clear hp;simp only[List.drop_succ_cons,List.drop_zero];have HC1:=hide (HC0.out.ex hz1.un);clear hz1 hbc HC0;have hbc:=HC1.out.box.cell;go_wp2_with ((go_at_call 91;refine(pws_any b l c1 _ HC1.out.bu (by omega)).mono ?_;rintro e u2 ⟨rfl,h1,h2⟩;have HC2:=hide (HC1.out.wr h1 h2);clear h1 h2 HC1;clear hbc;have hbc:=HC2.out.box.cell));clear hbc
 go_loopw [66] (fun vi wr=> ∃j:Nat,vi= .int .i64 (j:Int)/\j<=n/\Hid (PC b w.heap.size w P 70 #[.int .i64 5, .string (str op), .string (str nm), .string (str tx), .int .i64 v, .slice A n c] (.slice A n c) xs (l++c1++joinS [44,32] ((srcs xs).take j)) wr)) (fun vi _=>n-(intOf vi).toNat)
 case atStart=>exact⟨0,rfl,Nat.zero_le _,by simpa[joinS]using HC2⟩
 case round=>
  clear HC2;obtain⟨j,rfl,hj,HCr⟩:=hrel;by_cases hlt:j<n
  ·have hlt':(j:Int)<n:=by omega
   have hjl:j<xs.length:=by have:=HN.out;omega
   obtain⟨bj,oj,aj,rfl,hbj,hPj,e0,e1,e2,e3,e4,e5,hRy⟩:=HCr.out.rd.at_ j hjl;have HXy:=hide (HX.out _ (List.getElem_mem hjl));have hsl:(srcs xs).length=xs.length:=by rw[srcs_map];simp
   have hsj:(srcs xs)[j]'(by omega)=srcE xs[j]:=by simp[srcs_map]
   have HT:=hide (show joinS [44,32] ((srcs xs).take (j+1))=joinS [44,32] ((srcs xs).take j)++((if(srcs xs).take j=[]then[]else[44,32])++srcE xs[j])from by rw[List.take_succ_eq_append_getElem (by omega),joinS_snoc,hsj]);have hbd:(joinS [44,32] ((srcs xs).take (j+1))).length<=(joinS [44,32] (srcs xs)).length:=by
    have:srcs xs=(srcs xs).take (j+1)++(srcs xs).drop (j+1):=(List.take_append_drop _ _).symm
    conv=>rhs;rw[this]
    cases h:(srcs xs).take (j+1)with
    |nil=>simp[joinS]
    |cons a r=>simp[joinS]
   have hte:((srcs xs).take j=[])↔j=0:=by
    rw[List.take_eq_nil_iff];constructor
    ·rintro(h|h)
     ·exact h
     ·rw[h]at hsl;simp at hsl;omega
    ·exact fun h=> .inl h
   generalize xs[j]=y at*;unfold PrX at HXy;obtain⟨By,dy,rfl,_⟩:=hRy.form;have HRy:=hide hRy;have hey:y.args.length=y.args.length:=rfl;have hsz:=HCr.out.bu.lt;have HC1:=hide (HCr.out.ex (Ext.alloc _ (.cells #[.int .i64 y.k, .string (str y.op), .string (str y.nm), .string (str y.tx), .int .i64 y.v, .slice By y.args.length dy] 70)));have HYB:=hide (Blk.new wr 70 #[.int .i64 y.k, .string (str y.op), .string (str y.nm), .string (str y.tx), .int .i64 y.v, .slice By y.args.length dy]);have hpy:wr.heap.size≠b:=by omega
   have HRz:=hide (hRy.keep (.of_ext (Ext.alloc wr (.cells #[.int .i64 y.k, .string (str y.op), .string (str y.nm), .string (str y.tx), .int .i64 y.v, .slice By y.args.length dy] 70))) (fun _ hb _=>hb));generalize joinS [44,32] ((srcs xs).take j)=J at*;generalize hJ1:joinS [44,32] ((srcs xs).take (j+1))=J1 at*;have hJl:=congrArg List.length HT.out;simp only[List.length_append]at hJl;generalize srcE y=Sy at*;clear hRy hsl hsj HRy hey;by_cases hj0:j=0
   ·subst hj0;simp only[Nat.zero_mul,Nat.add_zero]at e0 e1 e2 e3 e4 e5;rw[if_pos (hte.2 rfl)]at HT hJl;simp only[List.length_nil]at hJl;clear hte;go_wp2_with (go_at_call 201;refine(HXy.out P _ By _ dy b (l++c1++J) HRz.out hP HC1.out.tab HC1.out.bu (by simp only[List.length_append];omega)).mono ?_;rintro e u3 ⟨rfl,h1,h2⟩;have HC3:=hide (HC1.out.wr h1 h2);clear h1 h2 HC1);go_roundw
    case rel=>exact⟨1,rfl,by omega,by have:=HT.out;rw[show joinS [44,32] (List.take 1 (srcs xs))=J1 from hJ1,this];simpa[List.append_assoc]using HC3⟩
    case measure=>simp[intOf];omega
   ·have hj1:(0:Int)<j:=by omega
    have hj2:0<j:=by omega
    rw[if_neg (fun h=>hj0 (hte.1 h))]at HT hJl;simp only[List.length_cons,List.length_nil]at hJl;clear hte;have hyc:=HYB.out.cell;go_wp2_with (first|(go_at_call 91;refine(pws_any b (l++c1++J) [44,32] _ HC1.out.bu (by simp only[List.length_append,List.length_cons,List.length_nil];omega)).mono ?_;rintro e u2 ⟨rfl,h1,h2⟩;have HC2:=hide (HC1.out.wr h1 h2);have HYB2:=hide (h2.keep _ _ _ hpy (by decide) HYB.out);have hyc2:=HYB2.out.cell;have HRw:=hide (HRz.out.keep (h2.keepP hP) (fun _ hb _=>hb));clear h1 h2 HC1;clear hyc)|(go_at_call 201;refine(HXy.out P _ By _ dy b (l++c1++J++[44,32]) HRw.out hP HC2.out.tab HC2.out.bu (by simp only[List.length_append,List.length_cons,List.length_nil];omega)).mono ?_;rintro e u3 ⟨rfl,h1,h2⟩;have HC3:=hide (HC2.out.wr h1 h2);clear h1 h2 HC2));go_roundw
    case rel=>exact⟨j+1,by go_num,by omega,by have:=HT.out;rw[hJ1,this];simpa[List.append_assoc]using HC3⟩
    case measure=>simp[intOf];omega
  ·have hlt': ¬(j:Int)<n:=by omega
   have hjn:j=n:=by omega
   have HQ:=hide (show(srcs xs).take j=srcs xs from by rw[hjn,HN.out,List.take_of_length_le (by rw[srcs_map];simp)]);rw[HQ.out]at HCr;generalize joinS [44,32] (srcs xs)=J at*;clear HQ;go_wp2_with ((go_at_call 91;refine(pws_any b (l++c1++J) [41] _ HCr.out.bu (by simp only[List.length_append,List.length_cons,List.length_nil];omega)).mono ?_;rintro e ue ⟨rfl,h1,h2⟩;have HCe:=hide (HCr.out.wr h1 h2);clear h1 h2 HCr))
   go_end0
   exact⟨rfl,by rw[<-HS.out];have:=HCe.out.bu;rw[<-Hc1.out]at this;simpa[List.append_assoc]using this,HCe.out.fb⟩
theorem pr_6 (op nm tx:List UInt8) (v:Int) (y:Ex) (hy:PrX y) (P:Nat->Prop) (w:World) (A:Option Addr) (n c b:Nat) (l:List UInt8) (hR:RdE w P (.slice A n c) [y]) (hP: ∀k,P k->k<b) (hT:TabW w b) (hB:Bu w b l) (S:List UInt8) (hS:srcE (.mk 6 op nm tx v [y])=S) (hl:l.length+S.length<=1000000000):
  Calls prog 201 #[.pointer (some ⟨b,0,none⟩), .agg #[.int .i64 6, .string (str op), .string (str nm), .string (str tx), .int .i64 v, .slice A n c]] w fun e w'=>e= .returned (.tuple #[])/\Bu w' b (l++S)/\FB b w w':=by
 have hn:=hR.len;have HS:=hide (show op++par (decide (y.prec<7)) (srcE y)=S from by rw[<-hS];rfl);have hpl:=par_len (decide (y.prec<7)) (srcE y);have hlen:op.length+(par (decide (y.prec<7)) (srcE y)).length=S.length:=by rw[<-HS.out];simp only[List.length_append]
 have hpg:(srcE y).length<=(par (decide (y.prec<7)) (srcE y)).length:=by unfold par;split<;>simp<;>omega
 clear hS;simp only[List.length_cons,List.length_nil]at hn;obtain rfl:n=1:=hn;obtain⟨b0,o0,a0,hA0,hb0,hP0,y00,y10,y20,y30,y40,y50,hRy0⟩:=hR.at_ 0 (by simp);simp only[List.getElem_cons_zero,List.getElem_cons_succ,Nat.zero_mul,Nat.add_zero,Nat.one_mul]at y00 y10 y20 y30 y40 y50 hRy0;obtain⟨B0,d0,rfl,_⟩:=hRy0.form;have HY0:=hide (And.intro y00 (And.intro y10 (And.intro y20 (And.intro y30 (And.intro y40 y50)))));have HRy0:=hide hRy0;clear y00 y10 y20 y30 y40 y50 hRy0;subst hA0;have HC0:=hide (show PC b w.heap.size w P 70 #[.int .i64 6, .string (str op), .string (str nm), .string (str tx), .int .i64 v, .slice (some ⟨b0,o0,none⟩) 1 c] (.slice (some ⟨b0,o0,none⟩) 1 c) [y] l _ from⟨Blk.new w 70 #[.int .i64 6, .string (str op), .string (str nm), .string (str tx), .int .i64 v, .slice (some ⟨b0,o0,none⟩) 1 c],hB.ext (Ext.alloc w _),hR.keep (.of_ext (Ext.alloc w _)) (fun _ hb _=>hb),FB.of_ext (Ext.alloc w _) (Nat.le_of_lt hB.lt),hT.fb (FB.of_ext (Ext.alloc w _) (Nat.le_of_lt hB.lt)),Nat.ne_of_gt hB.lt,by decide,hP⟩);have hbc:=HC0.out.box.cell;clear hB hR hT;have HPR0:=hide (fun w=>prec_any y w (.slice B0 y.args.length d0) ⟨_,_,_,rfl⟩);have HO0:=hide (opd_any y hy);generalize y.prec=p0 at*;generalize srcE y=Sy at*;clear hy;go_enter func201,ntmps201;go_wp2_with fail;refine wp_region_ext 5 3 [] mixed (by kernel_rfl) trivial ?_;repeat (refine sx ?_ (fun w1 hU=> ?_) ?_;rotate_left;(focus have f1:=(HC0.out.ex hU.un).box.cell;clear hU;go_simp<;>with_reducible rfl);simp only[pq0,pq1,pq2,pq3,pq4])
 intro z1 hz1 hp;clear hp;simp only[List.drop_succ_cons,List.drop_zero];have HC1:=hide (HC0.out.ex hz1.un);clear hz1 hbc HC0;have hbc:=HC1.out.box.cell;go_wp2_with ((go_at_call 91;refine(pws_any b l op _ HC1.out.bu (by omega)).mono ?_;rintro e u2 ⟨rfl,h1,h2⟩;have HC2:=hide (HC1.out.wr h1 h2);clear h1 h2 HC1;clear hbc;have hbc:=HC2.out.box.cell));have hbw2:=Nat.le_of_lt HC2.out.bu.lt;clear hbc;refine wp_region_fb b 12 8 [(9,fun x=>x= .int .i64 p0,fun _ _=>True),(11,fun x=>x= .tuple #[],fun _ wx=>Bu wx b (l++op++par (decide (p0<7)) Sy))] 11 mixed (by kernel_rfl) hbw2 ⟨fun _ _ _ _ _=>trivial,fun _ _ _ h hx=>h.ext hx,trivial⟩ ⟨.inr fun _ _ _ _ _=>trivial, .inl rfl,trivial⟩ ?_;repeat (refine sx ?_ (fun w1 hU=> ?_) ?_;rotate_left;(focus have hF:=fb_un (hU hbw2);have f1:=(hF.keep _ _ _ HC2.out.ne HC2.out.tt HC2.out.box).cell;have hK:=kp_trans (HC2.out.fb.keepP hP) (hF.keepP hP);have e0:=(hK.cell (o0) hP0 hb0).trans HY0.out.1;have e1:=(hK.cell (o0+1) hP0 hb0).trans HY0.out.2.1;have e2:=(hK.cell (o0+2) hP0 hb0).trans HY0.out.2.2.1;have e3:=(hK.cell (o0+3) hP0 hb0).trans HY0.out.2.2.2.1;have e4:=(hK.cell (o0+4) hP0 hb0).trans HY0.out.2.2.2.2.1;have e5:=(hK.cell (o0+5) hP0 hb0).trans HY0.out.2.2.2.2.2;clear hF hK hU;go_simp<;>with_reducible rfl);simp only[pq0,pq1,pq2,pq3,pq4])
 refine so (fun w6 hU hp K hK=> ?_) ?_
 ·clear hp hU;go_simp;refine(HPR0.out w6).mono ?_;rintro e w7 ⟨rfl,hE⟩;exact hK _ _ hE rfl trivial
 rintro _ rfl;simp only[pq0,pq1,pq2,pq3,pq4];repeat (refine sx ?_ (fun w1 hU=> ?_) ?_;rotate_left;(focus have hF:=fb_un (hU hbw2);have f1:=(hF.keep _ _ _ HC2.out.ne HC2.out.tt HC2.out.box).cell;have hK:=kp_trans (HC2.out.fb.keepP hP) (hF.keepP hP);have e0:=(hK.cell (o0) hP0 hb0).trans HY0.out.1;have e1:=(hK.cell (o0+1) hP0 hb0).trans HY0.out.2.1;have e2:=(hK.cell (o0+2) hP0 hb0).trans HY0.out.2.2.1;have e3:=(hK.cell (o0+3) hP0 hb0).trans HY0.out.2.2.2.1;have e4:=(hK.cell (o0+4) hP0 hb0).trans HY0.out.2.2.2.2.1;have e5:=(hK.cell (o0+5) hP0 hb0).trans HY0.out.2.2.2.2.2;clear hF hK hU;go_simp<;>with_reducible rfl);simp only[pq0,pq1,pq2,pq3,pq4])
 refine seq_late _ _ (by rfl) rfl ⟨_,rfl⟩ rfl (fun w6 hT hp K hK=> ?_) ?_
 ·have HC6:=hide (HC2.out.ex hT.un);have hR6:=HRy0.out.keep (kp_trans (HC2.out.fb.keepP hP) (.of_ext hT.un)) (fun _ hb _=>hb);have HR6:=hide hR6;clear hp hT hR6;go_simp;refine(HO0.out (decide (p0<7)) P w6 B0 _ d0 b (l++op) HR6.out hP HC6.out.tab HC6.out.bu (by first|omega|(simp only[List.length_append,List.length_cons,List.length_nil];omega))).mono ?_;rintro e w7 ⟨rfl,h1,h2⟩;exact hK _ _ (fun _=>h2) rfl h1
 rintro _ rfl;simp only[pq0,pq1,pq2,pq3,pq4];intro v3 hv hp;have HC3:=hide (HC2.out.wr (hp _ (.head _)) hv);clear hv hp;simp only[List.drop_succ_cons,List.drop_nil];have hbc:=HC3.out.box.cell;go_wp2_with fail
 go_end0
 exact⟨rfl,by rw[<-HS.out];have:=HC3.out.bu;simpa[List.append_assoc]using this,HC3.out.fb⟩
theorem pr_7 (op nm tx:List UInt8) (v:Int) (y z:Ex) (hy:PrX y) (hz:PrX z) (P:Nat->Prop) (w:World) (A:Option Addr) (n c b:Nat) (l:List UInt8) (hR:RdE w P (.slice A n c) [y,z]) (hP: ∀k,P k->k<b) (hT:TabW w b) (hB:Bu w b l) (S:List UInt8) (hS:srcE (.mk 7 op nm tx v [y,z])=S) (hl:l.length+S.length<=1000000000):
  Calls prog 201 #[.pointer (some ⟨b,0,none⟩), .agg #[.int .i64 7, .string (str op), .string (str nm), .string (str tx), .int .i64 v, .slice A n c]] w fun e w'=>e= .returned (.tuple #[])/\Bu w' b (l++S)/\FB b w w':=by
 have hn:=hR.len;have HS:=hide (show par (decide (y.prec<lev op)) (srcE y)++([32]++op++[32])++par (decide (z.prec<=lev op)) (srcE z)=S from by rw[<-hS];rfl);have hlen:(par (decide (y.prec<lev op)) (srcE y)).length+(1+op.length+1)+(par (decide (z.prec<=lev op)) (srcE z)).length=S.length:=by rw[<-HS.out];simp only[List.length_append,List.length_cons,List.length_nil]
 have hpg:(srcE y).length<=(par (decide (y.prec<lev op)) (srcE y)).length:=by unfold par;split<;>simp<;>omega
 have hph:(srcE z).length<=(par (decide (z.prec<=lev op)) (srcE z)).length:=by unfold par;split<;>simp<;>omega
 clear hS;simp only[List.length_cons,List.length_nil]at hn;obtain rfl:n=2:=hn;obtain⟨b0,o0,a0,hA0,hb0,hP0,y00,y10,y20,y30,y40,y50,hRy0⟩:=hR.at_ 0 (by simp);simp only[List.getElem_cons_zero,List.getElem_cons_succ,Nat.zero_mul,Nat.add_zero,Nat.one_mul]at y00 y10 y20 y30 y40 y50 hRy0;obtain⟨B0,d0,rfl,_⟩:=hRy0.form;subst hA0;obtain⟨b1,o1,a1,hA1,hb1,hP1,y01,y11,y21,y31,y41,y51,hRy1⟩:=hR.at_ 1 (by simp);simp only[List.getElem_cons_zero,List.getElem_cons_succ,Nat.zero_mul,Nat.add_zero,Nat.one_mul]at y01 y11 y21 y31 y41 y51 hRy1;obtain⟨B1,d1,rfl,_⟩:=hRy1.form;injection hA1 with hA1;injection hA1 with hA1 hA2;subst hA1 hA2;have HY0:=hide (And.intro y00 (And.intro y10 (And.intro y20 (And.intro y30 (And.intro y40 y50)))));have HRy0:=hide hRy0;clear y00 y10 y20 y30 y40 y50 hRy0;have HY1:=hide (And.intro y01 (And.intro y11 (And.intro y21 (And.intro y31 (And.intro y41 y51)))));have HRy1:=hide hRy1;clear y01 y11 y21 y31 y41 y51 hRy1;have HC0:=hide (show PC b w.heap.size w P 70 #[.int .i64 7, .string (str op), .string (str nm), .string (str tx), .int .i64 v, .slice (some ⟨b0,o0,none⟩) 2 c] (.slice (some ⟨b0,o0,none⟩) 2 c) [y,z] l _ from⟨Blk.new w 70 #[.int .i64 7, .string (str op), .string (str nm), .string (str tx), .int .i64 v, .slice (some ⟨b0,o0,none⟩) 2 c],hB.ext (Ext.alloc w _),hR.keep (.of_ext (Ext.alloc w _)) (fun _ hb _=>hb),FB.of_ext (Ext.alloc w _) (Nat.le_of_lt hB.lt),hT.fb (FB.of_ext (Ext.alloc w _) (Nat.le_of_lt hB.lt)),Nat.ne_of_gt hB.lt,by decide,hP⟩);have hbc:=HC0.out.box.cell;clear hB hR hT;have HPR0:=hide (fun w=>prec_any y w (.slice B0 y.args.length d0) ⟨_,_,_,rfl⟩);have HO0:=hide (opd_any y hy);have HPR1:=hide (fun w=>prec_any z w (.slice B1 z.args.length d1) ⟨_,_,_,rfl⟩);have HO1:=hide (opd_any z hz);generalize y.prec=p0 at*;generalize z.prec=p1 at*;obtain⟨c1,Hc1⟩: ∃c,Hid ([32]++op=c):=⟨_,hide rfl⟩
 have hzc1:c1.length=1+op.length:=by rw[<-Hc1.out,List.length_append];rfl
 have hsc1:(⟨#[32]⟩:ByteArray)++str op=str c1:=by rw[<-Hc1.out];exact str_app _ _
 have hmc1: ¬9223372036854775807<1+op.length:=by omega
 have hkc1: ¬9223372036854775807<op.length+1:=by omega
 have hqc1l:((⟨#[32]⟩:ByteArray)).size=1:=rfl;have hqc1op:(str op).size=op.length:=str_size _;obtain⟨c2,Hc2⟩: ∃c,Hid (c1++[32]=c):=⟨_,hide rfl⟩
 have hzc2:c2.length=c1.length+1:=by rw[<-Hc2.out,List.length_append];rfl
 have hsc2:str c1++(⟨#[32]⟩:ByteArray)=str c2:=by rw[<-Hc2.out];exact str_app _ _
 have hmc2: ¬9223372036854775807<c1.length+1:=by omega
 have hkc2: ¬9223372036854775807<1+c1.length:=by omega
 have hqc2c1:(str c1).size=c1.length:=str_size _;have hqc2l:((⟨#[32]⟩:ByteArray)).size=1:=rfl;have Hz1:=hide hzc1;have Hz2:=hide hzc2;clear hzc1 hzc2;have HPS:=hide (fun w=>prec_any (.mk 7 op nm tx v [y,z]) w (.slice (some ⟨b0,o0,none⟩) 2 c) ⟨_,_,_,rfl⟩);have hps:Ex.prec (.mk 7 op nm tx v [y,z])=lev op:=rfl;rw[hps]at HPS;simp only[Ex.k,Ex.op,Ex.nm,Ex.tx,Ex.v]at HPS;generalize lev op=L at*;generalize srcE y=Sy at*;generalize srcE z=Sz at*;clear hy hz hps;go_enter func201,ntmps201;go_wp2_with (go_at_call 217;refine(HPS.out _).mono ?_;rintro e u1 ⟨rfl,hE⟩;have HC1:=hide (HC0.out.ex hE);clear hE hbc HC0;have hbc:=HC1.out.box.cell);have hbw1:=Nat.le_of_lt HC1.out.bu.lt;clear hbc;refine wp_region_fb b 13 8 [(9,fun x=>x= .int .i64 p0,fun _ _=>True),(12,fun x=>x= .tuple #[],fun _ wx=>Bu wx b (l++par (decide (p0<L)) Sy))] 12 mixed (by kernel_rfl) hbw1 ⟨fun _ _ _ _ _=>trivial,fun _ _ _ h hx=>h.ext hx,trivial⟩ ⟨.inr fun _ _ _ _ _=>trivial, .inl rfl,trivial⟩ ?_;repeat (refine sx ?_ (fun w1 hU=> ?_) ?_;rotate_left;(focus have hF:=fb_un (hU hbw1);have f1:=(hF.keep _ _ _ HC1.out.ne HC1.out.tt HC1.out.box).cell;have hK:=kp_trans (HC1.out.fb.keepP hP) (hF.keepP hP);have e0:=(hK.cell (o0) hP0 hb0).trans HY0.out.1;have e1:=(hK.cell (o0+1) hP0 hb0).trans HY0.out.2.1;have e2:=(hK.cell (o0+2) hP0 hb0).trans HY0.out.2.2.1;have e3:=(hK.cell (o0+3) hP0 hb0).trans HY0.out.2.2.2.1;have e4:=(hK.cell (o0+4) hP0 hb0).trans HY0.out.2.2.2.2.1;have e5:=(hK.cell (o0+5) hP0 hb0).trans HY0.out.2.2.2.2.2;clear hF hK hU;go_simp<;>with_reducible rfl);simp only[pq0,pq1,pq2,pq3,pq4])
 refine so (fun w6 hU hp K hK=> ?_) ?_
 ·clear hp hU;go_simp;refine(HPR0.out w6).mono ?_;rintro e w7 ⟨rfl,hE⟩;exact hK _ _ hE rfl trivial
 rintro _ rfl;simp only[pq0,pq1,pq2,pq3,pq4];repeat (refine sx ?_ (fun w1 hU=> ?_) ?_;rotate_left;(focus have hF:=fb_un (hU hbw1);have f1:=(hF.keep _ _ _ HC1.out.ne HC1.out.tt HC1.out.box).cell;have hK:=kp_trans (HC1.out.fb.keepP hP) (hF.keepP hP);have e0:=(hK.cell (o0) hP0 hb0).trans HY0.out.1;have e1:=(hK.cell (o0+1) hP0 hb0).trans HY0.out.2.1;have e2:=(hK.cell (o0+2) hP0 hb0).trans HY0.out.2.2.1;have e3:=(hK.cell (o0+3) hP0 hb0).trans HY0.out.2.2.2.1;have e4:=(hK.cell (o0+4) hP0 hb0).trans HY0.out.2.2.2.2.1;have e5:=(hK.cell (o0+5) hP0 hb0).trans HY0.out.2.2.2.2.2;clear hF hK hU;go_simp<;>with_reducible rfl);simp only[pq0,pq1,pq2,pq3,pq4])
 refine seq_late _ _ (by rfl) rfl ⟨_,rfl⟩ rfl (fun w6 hT hp K hK=> ?_) ?_
 ·have HC6:=hide (HC1.out.ex hT.un);have hR6:=HRy0.out.keep (kp_trans (HC1.out.fb.keepP hP) (.of_ext hT.un)) (fun _ hb _=>hb);have HR6:=hide hR6;clear hp hT hR6;go_simp;refine(HO0.out (decide (p0<L)) P w6 B0 _ d0 b (l) HR6.out hP HC6.out.tab HC6.out.bu (by first|omega|(simp only[List.length_append,List.length_cons,List.length_nil];omega))).mono ?_;rintro e w7 ⟨rfl,h1,h2⟩;exact hK _ _ (fun _=>h2) rfl h1
 rintro _ rfl;simp only[pq0,pq1,pq2,pq3,pq4];intro v2 hv hp;have HC2:=hide (HC1.out.wr (hp _ (.head _)) hv);clear hv hp;simp only[List.drop_succ_cons,List.drop_nil];have hbc:=HC2.out.box.cell;go_wp2_with fail;generalize hq1:par (decide (p0<L)) Sy=Q1 at*;refine wp_region_ext 7 3 [] mixed (by kernel_rfl) trivial ?_;repeat (refine sx ?_ (fun w1 hU=> ?_) ?_;rotate_left;(focus have f1:=(HC2.out.ex hU.un).box.cell;clear hU;go_simp<;>with_reducible rfl);simp only[pq0,pq1,pq2,pq3,pq4])
 intro z3 hz3 hp;clear hp;simp only[List.drop_succ_cons,List.drop_zero];have HC3:=hide (HC2.out.ex hz3.un);clear hz3 hbc HC2;have hbc:=HC3.out.box.cell;go_wp2_with ((go_at_call 91;refine(pws_any b (l++Q1) c2 _ HC3.out.bu (by have a1:=Hz1.out;have a2:=Hz2.out;simp only[List.length_append];omega)).mono ?_;rintro e u4 ⟨rfl,h1,h2⟩;have HC4:=hide (HC3.out.wr h1 h2);clear h1 h2 HC3;clear hbc;have hbc:=HC4.out.box.cell));have a1:l.length+Q1.length+c2.length+(par (decide (p1<=L)) Sz).length<=1000000000:=by have a1:=Hz1.out;have a2:=Hz2.out;omega
 clear hsc1 hsc2 hmc1 hmc2 hkc1 hkc2 hqc1l hqc1op hqc2c1 hqc2l hlen hl hpg hph;have hbw4:=Nat.le_of_lt HC4.out.bu.lt;clear hbc;refine wp_region_fb b 13 8 [(9,fun x=>x= .int .i64 p1,fun _ _=>True),(12,fun x=>x= .tuple #[],fun _ wx=>Bu wx b (l++Q1++c2++par (decide (p1<=L)) Sz))] 12 mixed (by kernel_rfl) hbw4 ⟨fun _ _ _ _ _=>trivial,fun _ _ _ h hx=>h.ext hx,trivial⟩ ⟨.inr fun _ _ _ _ _=>trivial, .inl rfl,trivial⟩ ?_;repeat (refine sx ?_ (fun w1 hU=> ?_) ?_;rotate_left;(focus have hF:=fb_un (hU hbw4);have f1:=(hF.keep _ _ _ HC4.out.ne HC4.out.tt HC4.out.box).cell;have hK:=kp_trans (HC4.out.fb.keepP hP) (hF.keepP hP);have e0:=(hK.cell (o0+6) hP1 hb1).trans HY1.out.1;have e1:=(hK.cell (o0+6+1) hP1 hb1).trans HY1.out.2.1;have e2:=(hK.cell (o0+6+2) hP1 hb1).trans HY1.out.2.2.1;have e3:=(hK.cell (o0+6+3) hP1 hb1).trans HY1.out.2.2.2.1;have e4:=(hK.cell (o0+6+4) hP1 hb1).trans HY1.out.2.2.2.2.1;have e5:=(hK.cell (o0+6+5) hP1 hb1).trans HY1.out.2.2.2.2.2;clear hF hK hU;go_simp<;>with_reducible rfl);simp only[pq0,pq1,pq2,pq3,pq4])
 refine so (fun w6 hU hp K hK=> ?_) ?_
 ·clear hp hU;go_simp;refine(HPR1.out w6).mono ?_;rintro e w7 ⟨rfl,hE⟩;exact hK _ _ hE rfl trivial
 rintro _ rfl;simp only[pq0,pq1,pq2,pq3,pq4];repeat (refine sx ?_ (fun w1 hU=> ?_) ?_;rotate_left;(focus have hF:=fb_un (hU hbw4);have f1:=(hF.keep _ _ _ HC4.out.ne HC4.out.tt HC4.out.box).cell;have hK:=kp_trans (HC4.out.fb.keepP hP) (hF.keepP hP);have e0:=(hK.cell (o0+6) hP1 hb1).trans HY1.out.1;have e1:=(hK.cell (o0+6+1) hP1 hb1).trans HY1.out.2.1;have e2:=(hK.cell (o0+6+2) hP1 hb1).trans HY1.out.2.2.1;have e3:=(hK.cell (o0+6+3) hP1 hb1).trans HY1.out.2.2.2.1;have e4:=(hK.cell (o0+6+4) hP1 hb1).trans HY1.out.2.2.2.2.1;have e5:=(hK.cell (o0+6+5) hP1 hb1).trans HY1.out.2.2.2.2.2;clear hF hK hU;go_simp<;>with_reducible rfl);simp only[pq0,pq1,pq2,pq3,pq4])
 refine seq_late _ _ (by rfl) rfl ⟨_,rfl⟩ rfl (fun w6 hT hp K hK=> ?_) ?_
 ·have HC6:=hide (HC4.out.ex hT.un);have hR6:=HRy1.out.keep (kp_trans (HC4.out.fb.keepP hP) (.of_ext hT.un)) (fun _ hb _=>hb);have HR6:=hide hR6;clear hp hT hR6;go_simp;refine(HO1.out (decide (p1<=L)) P w6 B1 _ d1 b (l++Q1++c2) HR6.out hP HC6.out.tab HC6.out.bu (by first|omega|(simp only[List.length_append,List.length_cons,List.length_nil];omega))).mono ?_;rintro e w7 ⟨rfl,h1,h2⟩;exact hK _ _ (fun _=>h2) rfl h1
 rintro _ rfl;simp only[pq0,pq1,pq2,pq3,pq4];intro v5 hv hp;have HC5:=hide (HC4.out.wr (hp _ (.head _)) hv);clear hv hp;simp only[List.drop_succ_cons,List.drop_nil];have hbc:=HC5.out.box.cell;go_wp2_with fail
 go_end0
 exact⟨rfl,by rw[<-HS.out];have:=HC5.out.bu;rw[<-Hc2.out,<-Hc1.out]at this;simpa[List.append_assoc]using this,HC5.out.fb⟩
end Go.Proofs.YtddomeddabfinaaGreatDoor
namespace Go.Proofs.YtddomeddabfinaaGreatDoor
open Go.Proofs.Tryz
open Go.RowKit
theorem prx_all: ∀(m:Nat) (x:Ex),x.wt<=m->x.ok=true->PrX x
 |0,x,hm,_=>absurd hm (by have:=x.wt_eq;omega)
 |m+1, .mk k op nm tx v a,hm,h=>by
  have hw:=(Ex.mk k op nm tx v a).wt_eq;simp only[Ex.op,Ex.nm,Ex.tx,Ex.args]at hw;rw[Ex.ok,Bool.and_eq_true]at h;obtain⟨h1,h2⟩:=h;rw[okL_all]at h2;have ih: ∀y,y∈a->PrX y:=fun y hy=>prx_all m y (by have:=wtL_mem hy;omega) (List.all_eq_true.1 h2 y hy);intro P w A n c b l hR hP hT hB hl;simp only[Ex.k,Ex.op,Ex.nm,Ex.tx,Ex.v,Ex.args]at*;by_cases k1:k=1
  ·subst k1;rw[if_pos rfl]at h1;simp only[Bool.and_eq_true,decide_eq_true_eq]at h1;exact pr_1 op nm tx v a h1.1.1.1 h1.1.1.2 P w A n c b l hR hP hT hB _ rfl hl
  rw[if_neg k1]at h1;by_cases k2:k=2
  ·subst k2;rw[if_pos rfl]at h1;simp only[Bool.and_eq_true,okTx,decide_eq_true_eq]at h1;exact pr_2 op nm tx v a h1.1.1.2 P w A n c b l hR hP hT hB _ rfl hl
  rw[if_neg k2]at h1;by_cases k3:k=3
  ·subst k3;exact pr_3 op nm tx v a P w A n c b l hR hP hT hB _ rfl hl
  rw[if_neg k3]at h1;by_cases k4:k=4
  ·subst k4;rw[if_pos rfl]at h1;simp only[Bool.and_eq_true,beq_iff_eq]at h1;obtain⟨y,rfl⟩:=List.length_eq_one_iff.1 h1.2;exact pr_4 op nm tx v y (ih y (by simp)) P w A n c b l hR hP hT hB _ rfl hl
  rw[if_neg k4]at h1;by_cases k5:k=5
  ·subst k5;rw[if_pos rfl]at h1;simp only[Bool.and_eq_true,decide_eq_true_eq]at h1;exact pr_5 op nm tx v a ih h1.1.2 P w A n c b l hR hP hT hB _ rfl hl
  rw[if_neg k5]at h1;by_cases k6:k=6
  ·subst k6;rw[if_pos rfl]at h1;simp only[Bool.and_eq_true,beq_iff_eq]at h1;obtain⟨y,rfl⟩:=List.length_eq_one_iff.1 h1.2;exact pr_6 op nm tx v y (ih y (by simp)) P w A n c b l hR hP hT hB _ rfl hl
  rw[if_neg k6]at h1;by_cases k7:k=7
  ·subst k7;rw[if_pos rfl]at h1;simp only[Bool.and_eq_true,beq_iff_eq]at h1;obtain⟨y,z,rfl⟩: ∃y z,a=[y,z]:=by
    cases a with
    |nil=>simp at h1
    |cons y r=>
     cases r with
     |nil=>simp at h1
     |cons z r=>
      cases r with
      |nil=>exact⟨y,z,rfl⟩
      |cons u r=>simp at h1
   exact pr_7 op nm tx v y z (ih y (by simp)) (ih z (by simp)) P w A n c b l hR hP hT hB _ rfl hl
  ·rw[if_neg k7]at h1
   cases h1
theorem prx_any {x:Ex} (h:x.ok=true):PrX x:=prx_all _ x (Nat.le_refl _) h
def tabs (i:Nat):List UInt8:=List.replicate i 9
def blkS (i:Nat) (ts:List (List UInt8)):List UInt8:=[123,10]++ts.flatMap (fun t=>tabs (i+1)++t++[10])++(tabs i++[125])
def tVar:List UInt8:=[118,97,114,32]
def tEq:List UInt8:=[32,61,32]
def tIf:List UInt8:=[105,102,32]
def tElse:List UInt8:=[32,101,108,115,101,32]
def tWhile:List UInt8:=[119,104,105,108,101,32]
def tReturn:List UInt8:=[114,101,116,117,114,110]
def shapeS (i:Nat) (k:Int) (nm:List UInt8) (es bs ls l0:List (List UInt8)) (chain:Bool):List UInt8:=
 if k=1 then(if es=[]then tVar++nm++[59]else tVar++nm++tEq++es.headD []++[59])
 else if k=2 then nm++tEq++es.headD []++[59]
 else if k=3 then nm++[91]++es.headD []++[93]++(tEq++es.tail.headD []++[59])
 else if k=4 then tIf++es.headD []++[32]++blkS i bs++(if chain then tElse++l0.headD []else if ls=[]then[]else tElse++blkS i ls)
 else if k=5 then tWhile++es.headD []++[32]++blkS i bs
 else if k=6 then(if es=[]then tReturn++[59]else tReturn++[32]++es.headD []++[59])
 else if k=7 then es.headD []++[59]
 else[]
def chainB (l:List St):Bool:=l.length==1&&l.head?.map St.k==some 4
mutual
def srcSt:St->Nat->List UInt8| .mk k nm e b l,i=>shapeS i k nm (srcs e) (srcSs b (i+1)) (srcSs l (i+1)) (srcSs l i) (chainB l)
def srcSs:List St->Nat->List (List UInt8)
 | [],_=>[]
 |x::r,i=>srcSt x i::srcSs r i
end
theorem srcSs_map: ∀(l:List St) (i:Nat),srcSs l i=l.map fun x=>srcSt x i
 | [],_=>rfl
 |x::r,i=>by rw[srcSs,srcSs_map r i];rfl
def srcV (v:Vr):List UInt8:=tVar++v.nm++(if 0<v.sz then[91]++decL v.sz.toNat++[93]else[])++[59,10]
def tFunc:List UInt8:=[102,117,110,99,32]
def srcF (f:Fc):List UInt8:=tFunc++f.nm++[40]++joinS [44,32] f.ps++[41,32]++blkS 0 (srcSs f.body 1)++[10]
def srcP (p:Pg):List UInt8:=p.vs.flatMap srcV++p.fs.flatMap srcF
end Go.Proofs.YtddomeddabfinaaGreatDoor
