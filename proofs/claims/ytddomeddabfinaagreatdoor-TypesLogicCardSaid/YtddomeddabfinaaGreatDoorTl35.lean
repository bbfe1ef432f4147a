/-
  Parts of the proof: TyCk PaC TyAv TyN TyO TyDf TyX.
-/
import Derived.Test.YtddomeddabfinaaGreatDoorTl32
import Derived.Test.YtddomeddabfinaaGreatDoorTl34
import Derived.Test.YtddomeddabfinaaGreatDoorTl26
import Derived.Test.YtddomeddabfinaaGreatDoorTl25
import Derived.Test.YtddomeddabfinaaGreatDoorTl29
import Derived.Test.YtddomeddabfinaaGreatDoorTl24
set_option maxRecDepth 100000
set_option maxHeartbeats 8000000
set_option linter.unusedVariables false
set_option linter.unusedSimpArgs false
set_option linter.unusedSectionVars false
namespace Go.Proofs.YtddomeddabfinaaGreatDoor
open Go.Proofs.Tryz
open Go.RowKit
def chkL (p:Pg):Er:=if okPg p=true then(match ckAll p with| .ok _=>([],0)| .error e=>e)else([],1)
structure CW (w:World) (sv sf x y:Value) (W:World):Prop where
 e:Ext w W
 b0:Blk W w.heap.size 34 #[sv,sf]
 b1:Blk W (w.heap.size+1) 9 #[x]
 b2:Blk W (w.heap.size+1+1) 28 #[y]
theorem cw_new (w:World) (sv sf x y:Value):CW w sv sf x y (((w.alloc (.cells #[sv,sf] 34)).alloc (.cells #[x] 9)).alloc (.cells #[y] 28)):=by
 refine⟨((Ext.alloc w _).alloc' _).alloc' _,((Blk.new w _ _).alloc _).alloc _,?_,?_⟩
 ·have:=(Blk.new (w.alloc (.cells #[sv,sf] 34)) 9 #[x]).alloc (.cells #[y] 28);rwa [World.size_alloc]at this
 ·have:=Blk.new ((w.alloc (.cells #[sv,sf] 34)).alloc (.cells #[x] 9)) 28 #[y];rwa [World.size_alloc,World.size_alloc]at this
section
variable {w W W':World} {sv sf x y:Value}
theorem CW.ex (h:CW w sv sf x y W) (hE:Ext W W'):CW w sv sf x y W':=⟨h.e.trans hE,h.b0.ext hE,h.b1.ext hE,h.b2.ext hE⟩
theorem CW.lt (h:CW w sv sf x y W):w.heap.size+1+1<W.heap.size:=h.b2.lt
theorem CW.put (h:CW w sv sf x y W) (p q:Value):CW w sv sf p q ((W.setCell ⟨w.heap.size+1,0,none⟩ p).setCell ⟨w.heap.size+1+1,0,none⟩ q):=by
 refine⟨(h.e.set (by show w.heap.size<=w.heap.size+1;omega) _).set (by show w.heap.size<=w.heap.size+1+1;omega) _,(h.b0.far (p:=⟨w.heap.size+1,0,none⟩) (by show _≠w.heap.size+1;omega) _).far (p:=⟨w.heap.size+1+1,0,none⟩) (by show _≠w.heap.size+1+1;omega) _,?_,?_⟩
 ·have:=(h.b1.set 0 p).far (p:=⟨w.heap.size+1+1,0,none⟩) (by show _≠w.heap.size+1+1;omega) q;simpa using this
 ·have:=(h.b2.far (p:=⟨w.heap.size+1,0,none⟩) (by show _≠w.heap.size+1;omega) p).set 0 q;simpa using this
theorem CW.mv {S:Nat->Prop} (h:CW w sv sf x y W) (hM:Mv S W W') (hS: ∀k,k<=w.heap.size+1+1-> ¬S k):CW w sv sf x y W':=by
 have hl:=h.lt;have hE:Ext w W':=⟨hM.os.trans h.e.os,hM.tape.trans h.e.tape,hM.output.trans h.e.output,Nat.le_trans h.e.size hM.size,fun k hk=>(hM.block k (by omega) (hS k (by omega))).trans (h.e.obj hk)⟩
 exact⟨hE,hM.blk h.b0 (hS _ (by omega)),hM.blk h.b1 (hS _ (by omega)),hM.blk h.b2 (hS _ (by omega))⟩
theorem CW.drew (h:CW w sv sf x y W):CW w sv sf x y W.drew:=⟨h.e.drew,h.b0.drew,h.b1.drew,h.b2.drew⟩
end
theorem tcatch_idle (p0 p1:Value) (w:World):
  CallsD prog 36 #[p0,p1] .returning w fun e u' w'=>e= .returned (.tuple #[])/\u'= .returning/\w'=w:=by
 refine callsD_of_wpS func36 rfl fun c₀ cs hu=> ?_;apply wpS_seq;apply wpS_region;simp[wpOpsS,go_sem,recoverD,hu,ntmps36,Exit.thenS];apply wpS_seq;apply wpS_region;simp[wpOpsS,go_sem,Exit.thenS];refine wpS_cond (t:=false) (by simp[Act.eval]) ?_;simp only[Bool.false_eq_true,if_false];refine wpS_of_wp (wp_skip ?_)
 cases c₀;simp_all[bodyPostS,results,results36]
theorem tcatch_wrong (W0 w:World) (sv sf x y:Value) (nm:List UInt8) (n:Int) (older:List PanicEntry) (H:CW W0 sv sf x y w):
  CallsD prog 36 #[.pointer (some ⟨W0.heap.size+1,0,none⟩), .pointer (some ⟨W0.heap.size+1+1,0,none⟩)] (.panicking ({v:= .iface 102 (.agg #[.string (str nm), .int .i64 n]),recovered:=false}::older)) w fun e u' w'=>
   e= .returned (.tuple #[])/\u'= .panicking ({v:= .iface 102 (.agg #[.string (str nm), .int .i64 n]),recovered:=true}::older)/\CW W0 sv sf (.string (str nm)) (.int .i64 n) w':=by
 have hx:=Ext.alloc w (.cells #[.string (str nm), .int .i64 n] 102);have HBw:=hide (Blk.new w 102 #[.string (str nm), .int .i64 n]);have HC:=hide (H.ex hx);have hlt:=H.lt;clear hx H;refine callsD_of_wpS func36 rfl fun c₀ cs hu=> ?_;apply wpS_seq;apply wpS_region;simp[wpOpsS,go_sem,recoverD,hu,ntmps36,Exit.thenS];have hT: ∀v a b:Value,#[a,b]++((Array.replicate 18 undef).setIfInBounds 3 v).setIfInBounds 0 v= #[a,b,v,undef,undef,v,undef,undef,undef,undef,undef,undef,undef,undef,undef,undef,undef,undef,undef,undef]:=by
  intro v a b;apply Array.ext';simp[List.replicate_succ]
 rw[hT];clear hT;apply wpS_seq;apply wpS_region;simp[wpOpsS,go_sem,Exit.thenS];refine wpS_cond (t:=true) (by simp[Act.eval]) ?_;simp only[if_true];refine wpS_of_wp ?_;have hta: ∀(v:Value) (xT:TypeId) (w:World),(Instr.typeAssert (.iface 102 v) xT 102 true).run prog w= .ok (.tuple #[v, .bool true]) w:=fun v xT w=>by simp[Instr.typeAssert,run_underlying underlying102]
 go_wp2_with fail;clear hta;have hb:=HBw.out.cell;have c1:=HC.out.b1.cell;have c2:=HC.out.b2.cell;have z1:=HC.out.b1.frozen;have z2:=HC.out.b2.frozen;have m1:w.heap.size≠W0.heap.size+1:=by omega
 have m2:w.heap.size≠W0.heap.size+1+1:=by omega
 have m3:W0.heap.size+1≠W0.heap.size+1+1:=by omega
 generalize w.alloc (.cells #[.string (str nm), .int .i64 n] 102)=w5 at*;go_region;have hfin:=HC.out.put (.string (str nm)) (.int .i64 n);refine⟨rfl,_,rfl, .tuple #[],?_,rfl,rfl,hfin.drew⟩;simp[results,results36]
theorem ck_new (w:World) (sv sf:Value) (ht:BT w):CK ⟨w.heap.size+1+1+1,w.heap.size,w.heap.size+1,w.heap.size+1+1,sv,sf⟩ noGl (.map none) noLs ((((w.alloc (.map #[] 0)).alloc (.map #[] 0)).alloc (.map #[] 0)).alloc (.cells #[sv,sf, .map (some w.heap.size), .map (some (w.heap.size+1)), .map (some (w.heap.size+1+1)), .map none] 108)):=by
 have e1:=Ext.alloc w (.map #[] 0);have e2:=Ext.alloc (w.alloc (.map #[] 0)) (.map #[] 0);have e3:=Ext.alloc ((w.alloc (.map #[] 0)).alloc (.map #[] 0)) (.map #[] 0);have e4:=Ext.alloc (((w.alloc (.map #[] 0)).alloc (.map #[] 0)).alloc (.map #[] 0)) (.cells #[sv,sf, .map (some w.heap.size), .map (some (w.heap.size+1)), .map (some (w.heap.size+1+1)), .map none] 108);have m1:=(((MapIs.new w).ext e2).ext e3).ext e4;have m2:=((MapIs.new (w.alloc (.map #[] 0))).ext e3).ext e4;have m3:=(MapIs.new ((w.alloc (.map #[] 0)).alloc (.map #[] 0))).ext e4;have b:=Blk.new (((w.alloc (.map #[] 0)).alloc (.map #[] 0)).alloc (.map #[] 0)) 108 #[sv,sf, .map (some w.heap.size), .map (some (w.heap.size+1)), .map (some (w.heap.size+1+1)), .map none];simp only[World.size_alloc]at m1 m2 m3 b;exact⟨b,m1.congr fun s=>rfl,m2.congr fun s=>rfl,m3.congr fun s=>rfl, .inl ⟨rfl,rfl⟩,(((ht.ext e1).ext e2).ext e3).ext e4⟩
theorem check_any (p:Pg) (hw:pgW p<=6000000) (P:Nat->Prop) (w:World) (A B:Option Addr) (n c m d:Nat) (hV:RdV w P (.slice A n c) p.vs) (hF:RdF w P (.slice B m d) p.fs) (hT:TabW w w.heap.size) (hB:BT w):
  Calls prog 13 #[.agg #[.slice A n c, .slice B m d]] w fun e w'=>e= .returned (.tuple #[.string (str (chkL p).1), .int .i64 (chkL p).2])/\Ext w w':=by
 have hmm:= @run_makeMap prog;have hmf: ∀(fn:Fn) (first cap:Array Value) (w:World),(Instr.makeFunc fn first cap).run prog w= .ok (.func fn first cap) w:=fun _ _ _ _=>rfl;have HW0:=hide (cw_new w (.slice A n c) (.slice B m d) (.string ⟨#[]⟩) (.int .i64 0));have HV:=hide (hV.keep (Q:=fun b=>b<w.heap.size) ⟨Nat.le_refl _,fun _ _ _=>rfl⟩ (fun b h1 h2=>h2));have HF:=hide (hF.keep (Q:=fun b=>b<w.heap.size) ⟨Nat.le_refl _,fun _ _ _=>rfl⟩ (fun b h1 h2=>h2));have HVD:=hide (fun W (h:Ext w W)=>valid_w p hw (fun b=>b<w.heap.size) W A B n c m d (HV.out.keep (.of_ext h) (fun b hb _=>hb)) (HF.out.keep (.of_ext h) (fun b hb _=>hb)) (tabw_ext hT h));have HB:=hide hB;have HL:=hide (show chkL p=if okPg p=true then(match ckAll p with| .ok _=>([],0)| .error e=>e)else([],1)from rfl);have HAL:=hide (fun(X:CB) (hX:X.Ok) hg W h1 h2 h3 h4=>tall_any p hw X hX hg (fun b=>b<w.heap.size) W h1 h2 h3 h4);have hg0:0<w.heap.size:=by obtain⟨t,fr,h⟩:=hB;exact(Array.getElem?_eq_some_iff.1 h).1
 clear hV hF hT hB;generalize okPg p=ok at*;generalize ckAll p=r at*
 cases ok with
 |false=>
  have HQ:=hide (show chkL p=([],1)from HL.out);go_enter_defers func13,ntmps13;go_wp2_with (go_at_call 35;refine(HVD.out _ HW0.out.e).mono ?_;rintro e w1 ⟨rfl,hE⟩;have HW1:=hide (HW0.out.ex hE);have c1:=HW1.out.b1.cell;have z1:=HW1.out.b1.frozen;have c2:=HW1.out.b2.cell;have z2:=HW1.out.b2.frozen;clear hE);have HW2:=hide (HW1.out.put (.string ⟨#[]⟩) (.int .i64 1));have d1:=HW2.out.b1.cell;have d2:=HW2.out.b2.cell;refine⟨.tuple #[.string ⟨#[]⟩, .int .i64 1],?_,by rw[HQ.out];rfl,HW2.out.e⟩;simp[results,results13,go_sem,d1,d2]
 |true=>
  cases r with
  |ok u=>
   have HQ:=hide (show chkL p=([],0)from HL.out);go_enter_defers func13,ntmps13;go_wp2_with (first|(go_at_call 35;refine(HVD.out _ HW0.out.e).mono ?_;rintro e w1 ⟨rfl,hE⟩;have HW1:=hide (HW0.out.ex hE);have c0:=HW1.out.b0.cell;have HK:=hide (ck_new w1 (.slice A n c) (.slice B m d) (HB.out.ext HW1.out.e));have HE4:=hide ((((Ext.alloc w1 (.map #[] 0)).alloc' (.map #[] 0)).alloc' (.map #[] 0)).alloc' (.cells #[.slice A n c, .slice B m d, .map (some w1.heap.size), .map (some (w1.heap.size+1)), .map (some (w1.heap.size+1+1)), .map none] 108));have hl1:=HW1.out.lt;have HW4:=hide (HW1.out.ex HE4.out);clear hE)|(go_at_call 37;refine(HAL.out ⟨w1.heap.size+1+1+1,w1.heap.size,w1.heap.size+1,w1.heap.size+1+1, .slice A n c, .slice B m d⟩ ⟨by simp only;omega,by simp only;omega,by simp only;omega,by simp only;omega,by simp only;omega,by simp only;omega⟩ (by simp only;omega) _ (HV.out.keep (.of_ext HW4.out.e) (fun b hb _=>hb)) (HF.out.keep (.of_ext HW4.out.e) (fun b hb _=>hb)) (fun b hb hu=>by simp only[CB.U,CB.S]at hu;omega) HK.out).mono ?_;unfold ALp ckEnd;rintro e w5 ⟨hM,rfl⟩;have HW5:=hide (HW4.out.mv hM (fun k hk hu=>by simp only[CB.U,CB.S]at hu;omega));have c1:=HW5.out.b1.cell;have z1:=HW5.out.b1.frozen;have c2:=HW5.out.b2.cell;have z2:=HW5.out.b2.frozen;clear hM));have HW7:=hide (HW5.out.put (.string ⟨#[]⟩) (.int .i64 0));refine leaves_cons (f:=36) (args:= #[.pointer (some ⟨w.heap.size+1,0,none⟩), .pointer (some ⟨w.heap.size+1+1,0,none⟩)]) (by simp) (by simp[go_sem]) ?_;refine(tcatch_idle _ _ _).mono ?_;rintro e u' w8 ⟨rfl,rfl,rfl⟩;have d1:=HW7.out.b1.cell;have d2:=HW7.out.b2.cell;refine(show Leaves _ _ _ _ [] .returning _ from ?_);refine⟨.tuple #[.string ⟨#[]⟩, .int .i64 0],?_,by rw[HQ.out];rfl,HW7.out.e⟩;simp[results,results13,go_sem,d1,d2]
  |error q=>
   obtain⟨nm,en⟩:=q;have HQ:=hide (show chkL p=(nm,en)from HL.out);go_enter_defers func13,ntmps13;go_wp2_with (first|(go_at_call 35;refine(HVD.out _ HW0.out.e).mono ?_;rintro e w1 ⟨rfl,hE⟩;have HW1:=hide (HW0.out.ex hE);have c0:=HW1.out.b0.cell;have HK:=hide (ck_new w1 (.slice A n c) (.slice B m d) (HB.out.ext HW1.out.e));have HE4:=hide ((((Ext.alloc w1 (.map #[] 0)).alloc' (.map #[] 0)).alloc' (.map #[] 0)).alloc' (.cells #[.slice A n c, .slice B m d, .map (some w1.heap.size), .map (some (w1.heap.size+1)), .map (some (w1.heap.size+1+1)), .map none] 108));have hl1:=HW1.out.lt;have HW4:=hide (HW1.out.ex HE4.out);clear hE)|(go_at_call 37;refine(HAL.out ⟨w1.heap.size+1+1+1,w1.heap.size,w1.heap.size+1,w1.heap.size+1+1, .slice A n c, .slice B m d⟩ ⟨by simp only;omega,by simp only;omega,by simp only;omega,by simp only;omega,by simp only;omega,by simp only;omega⟩ (by simp only;omega) _ (HV.out.keep (.of_ext HW4.out.e) (fun b hb _=>hb)) (HF.out.keep (.of_ext HW4.out.e) (fun b hb _=>hb)) (fun b hb hu=>by simp only[CB.U,CB.S]at hu;omega) HK.out).mono ?_;unfold ALp ckEnd mistakeV;rintro e w5 ⟨hM,rfl⟩;have HW5:=hide (HW4.out.mv hM (fun k hk hu=>by simp only[CB.U,CB.S]at hu;omega));clear hM));refine leaves_cons (f:=36) (args:= #[.pointer (some ⟨w.heap.size+1,0,none⟩), .pointer (some ⟨w.heap.size+1+1,0,none⟩)]) (by simp) (by simp[go_sem]) ?_;refine(tcatch_wrong w w5 _ _ _ _ nm en _ HW5.out).mono ?_;rintro e u' w8 ⟨rfl,rfl,H8⟩;have d1:=H8.b1.cell;have d2:=H8.b2.cell;refine(show Leaves _ _ _ _ [] .returning _ from ?_);refine⟨.tuple #[.string (str nm), .int .i64 en],?_,by rw[HQ.out],H8.e⟩;simp[results,results13,go_sem,d1,d2]
end Go.Proofs.YtddomeddabfinaaGreatDoor
namespace Go.Proofs.YtddomeddabfinaaGreatDoor
open Go.Proofs.Tryz
open Go.RowKit
theorem decL_1:decL 1=[49]:=by rw[decL];rfl
end Go.Proofs.YtddomeddabfinaaGreatDoor
namespace Go.Proofs.YtddomeddabfinaaGreatDoor
open Go.Proofs.Tryz
open Go.RowKit
def ta1S:List UInt8:=[102,117,110,99,32,109,97,105,110,40,41,32,123,32,114,101,116,117,114,110,32,51,48,48,59,32,125]
def ta2S:List UInt8:=[118,97,114,32,97,91,51,93,59,32,102,117,110,99,32,109,97,105,110,40,41,32,123,32,97,91,51,93,32,61,32,49,59,32,125]
def ta1P:Pg:=retT (.mk 1 [] [] [] 300 [])
def ta2P:Pg:=⟨[⟨[97],3⟩],[⟨tyMain,[],[.mk 3 [97] [.mk 1 [] [] [] 3 [], .mk 1 [] [] [] 1 []] [] []]⟩]⟩
def ta1T:List Tok:=[⟨2,[102,117,110,99],0,0⟩,⟨1,[109,97,105,110],0,5⟩,⟨5,[40],0,9⟩,⟨5,[41],0,10⟩,⟨5,[123],0,12⟩,⟨2,[114,101,116,117,114,110],0,14⟩,⟨3,[],300,21⟩,⟨5,[59],0,24⟩,⟨5,[125],0,26⟩]
def ta2T:List Tok:=[⟨2,[118,97,114],0,0⟩,⟨1,[97],0,4⟩,⟨5,[91],0,5⟩,⟨3,[],3,6⟩,⟨5,[93],0,7⟩,⟨5,[59],0,8⟩,⟨2,[102,117,110,99],0,10⟩,⟨1,[109,97,105,110],0,15⟩,⟨5,[40],0,19⟩,⟨5,[41],0,20⟩,⟨5,[123],0,22⟩,⟨1,[97],0,24⟩,⟨5,[91],0,25⟩,⟨3,[],3,26⟩,⟨5,[93],0,27⟩,⟨5,[61],0,29⟩,⟨3,[],1,31⟩,⟨5,[59],0,32⟩,⟨5,[125],0,34⟩]
theorem ta1_toks:toksR ta1S=(ta1T,0,0):=by decide+kernel
theorem ta2_toks:toksR ta2S=(ta2T,0,0):=by decide+kernel
theorem ta1_prog:pProg 44 noPg ta1T= .ok (ta1P,[]):=by kernel_rfl
theorem ta2_prog:pProg 84 noPg ta2T= .ok (ta2P,[]):=by kernel_rfl
theorem decL_3:decL 3=[51]:=by rw[decL];rfl
theorem ta2_src:(srcP ta2P).length<=4000:=by
 have h1:srcE (.mk 1 [] [] [] 1 [])=[49]:=by
  show decL 1=[49];exact decL_1
 have h3:srcE (.mk 1 [] [] [] 3 [])=[51]:=by
  show decL 3=[51];exact decL_3
 simp[srcP,ta2P,srcF,srcV,srcSs,srcSt,shapeS,srcs,blkS,tabs,joinS,tyMain,tFunc,tReturn,tVar,tEq,decL_3,h1,h3]
theorem ta1_ok:okPg ta1P=true:=retT_ok (by decide) (by decide) (by decide)
theorem ta2_ok:okPg ta2P=true:=by
 unfold okPg;rw[decide_eq_true ta2_src];decide+kernel
theorem ta1_par:parL ta1S=(ta1P,0,0):=by
 unfold parL;rw[ta1_toks];simp only[if_true];unfold parT;rw[show pProg (4*ta1T.length+8) noPg ta1T= .ok (ta1P,[])from ta1_prog];simp only[ta1_ok,if_true]
theorem ta2_par:parL ta2S=(ta2P,0,0):=by
 unfold parL;rw[ta2_toks];simp only[if_true];unfold parT;rw[show pProg (4*ta2T.length+8) noPg ta2T= .ok (ta2P,[])from ta2_prog];simp only[ta2_ok,if_true]
theorem ta1_ck:(chkL ta1P).2=0:=by
 have:ckAll ta1P= .ok ():=retT_ck (fun g lo _=>by simp[ckE,ckL,CR.then]) (by simp[need]);unfold chkL;rw[ta1_ok,this];rfl
theorem ta2_ck:(chkL ta2P).2=0:=by
 have:ckAll ta2P= .ok ():=by kernel_rfl
 unfold chkL;rw[ta2_ok,this];rfl
theorem ta1_run:runL ta1P [] 100=⟨1,0,44,0,0,[],0⟩:=by
 show runF (retT (.mk 1 [] [] [] 300 [])) [] (199+1) (99+1)=_;rw[run_ret 199 99,ev_one _ 198 _ _ 300 (by decide) (by decide)];rfl
theorem ta2_run:(runL ta2P [] 100).kind=2:=by kernel_rfl
theorem ta1_w:pgW ta1P<=6000000:=by decide+kernel
theorem ta2_w:pgW ta2P<=6000000:=by decide+kernel
end Go.Proofs.YtddomeddabfinaaGreatDoor
namespace Go.Proofs.YtddomeddabfinaaGreatDoor
open Go.Proofs.Tryz
open Go.RowKit
theorem mtF:MapT prog 123 9 59 (.agg #[.string ⟨#[]⟩, .slice none 0 0, .slice none 0 0]):=⟨underlying123,underlying9,fun w=>by kernel_rfl⟩
theorem mtW:MapT prog 124 9 21 (.int .i32 0):=⟨underlying124,underlying9,fun w=>by kernel_rfl⟩
theorem mtA:MapT prog 125 9 40 (.slice none 0 0):=⟨underlying125,underlying9,fun w=>by kernel_rfl⟩
def RdR (w:World) (P:Nat->Prop) (v:Value) (R:Rs):Prop:=
 ∃A c,v= .slice A R.length c/\(R=[]\/R.length<=c/\c<=maxLen/\ ∃b o,A=some ⟨b,o,none⟩/\P b/\b<w.heap.size/\ ∃(da:Nat->Option Addr) (dc:Nat->Nat),∀i,(h:i<R.length)->w.cell? ⟨b,o+i*2,none⟩=some (.int .i64 R[i].1)/\w.cell? ⟨b,o+i*2+1,none⟩=some (.slice (da i) R[i].2.length (dc i))/\Sl w (da i) (dc i) R[i].2/\ ∀b2 o2,da i=some ⟨b2,o2,none⟩->R[i].2≠ []->P b2)
theorem Sl.keepP {w w':World} {P:Nat->Prop} {A:Option Addr} {c:Nat} {l:List UInt8} (h:Sl w A c l) (hk:KeepP P w w') (hP: ∀b o,A=some ⟨b,o,none⟩->l≠ []->P b):Sl w' A c l:=by
 refine⟨h.le,h.max,h.nil,?_⟩;by_cases hl:l=[]
 ·exact .inl hl
 rcases h.rd with h0|⟨b,o,ha,hb,hc⟩
 ·exact .inl h0
 ·exact .inr ⟨b,o,ha,Nat.lt_of_lt_of_le hb hk.size,fun i hi=>(hk.cell _ (hP b o ha hl) hb).trans (hc i hi)⟩
theorem RdR.keep {w w':World} {P:Nat->Prop} {v:Value} {R:Rs} (h:RdR w P v R) (hk:KeepP P w w'):RdR w' P v R:=by
 obtain⟨A,c,rfl,h⟩:=h;refine⟨A,c,rfl,h.imp id fun⟨h1,h2,b,o,ha,hP,hb,da,dc,hc⟩=>⟨h1,h2,b,o,ha,hP,Nat.lt_of_lt_of_le hb hk.size,da,dc,fun i hi=> ?_⟩⟩;obtain⟨q0,q1,q2,q3⟩:=hc i hi;exact⟨(hk.cell _ hP hb).trans q0,(hk.cell _ hP hb).trans q1,q2.keepP hk q3,q3⟩
structure MX where
 g:Nat
 bf:Nat
 bi:Nat
 ba:Nat
 lo:Nat
 hi:Nat
 rb:List UInt8->Nat
 fv:List UInt8->Value
 rv:Value
 al:List UInt8->Nat
 mv:Nat
abbrev MX.S (X:MX) (k:Nat):Prop:=(X.lo<=k/\k≠X.mv)/\k<X.hi
abbrev MX.P (X:MX) (k:Nat):Prop:=k<X.lo
abbrev MX.p (X:MX):Value:= .pointer (some ⟨X.g,0,none⟩)
structure MX.Ok (X:MX):Prop where
 fi:X.bf≠X.bi
 fa:X.bf≠X.ba
 ia:X.bi≠X.ba
 g:X.S X.g
 f:X.S X.bf
 i:X.S X.bi
 a:X.S X.ba
def arrV (X:MX) (σ:Ms) (s:List UInt8):Value:=if σ.arrs s=[]then .slice none 0 0 else .slice (some ⟨X.rb s,0,none⟩) (σ.arrs s).length (σ.arrs s).length
def byA (l:List UInt8):Array Value:=(bys l).toArray
structure MA (X:MX) (C:Cx) (σ:Ms) (w:World):Prop where
 ok:X.Ok
 blk: ∃lf:Int,lf.toNat=σ.left/\ -9223372036854775808<=lf/\lf<=9223372036854775807/\Blk w X.g 127 #[.map (some X.bf), .map (some X.bi), .map (some X.ba),X.rv, .int .i64 lf, .int .i64 (σ.stk:Int), .int .i64 0, .int .i64 0, .int .i64 0, .int .i64 0, .int .i64 0, .slice none 0 0, .int .i64 (σ.used:Int)]
 f: ∃L,MapIs w X.bf L/\ ∀s,(L s).getD (.agg #[.string ⟨#[]⟩, .slice none 0 0, .slice none 0 0])=X.fv s
 fr: ∀s,∃pv bv,X.fv s= .agg #[.string (str (C.fn s).nm),pv,bv]/\RdN w X.P pv (C.fn s).ps/\RdS w X.P bv (C.fn s).body
 i: ∃L,MapIs w X.bi L/\ ∀s,(L s).getD (.int .i32 0)= .int .i32 (σ.ints s)
 a: ∃L,MapIs w X.ba L/\ ∀s,(L s).getD (.slice none 0 0)=arrV X σ s
 row: ∀s,σ.arrs s≠ []->Blk w (X.rb s) 5 (byA (σ.arrs s))/\X.S (X.rb s)/\X.rb s≠X.g/\(σ.arrs s).length<=1073741824
 inj: ∀s t,σ.arrs s≠ []->σ.arrs t≠ []->X.rb s=X.rb t->s=t
 r:RdR w X.P X.rv C.R
 used:σ.used<=C.R.length
 stk:σ.stk<=1024
 rng:MsI σ
 t:BT w
 t0:X.P 0
 top:X.hi<=w.heap.size
 len: ∀s,(σ.arrs s).length=X.al s
section
variable {X:MX} {C:Cx} {σ:Ms} {w w':World}
theorem MA.mv {S:Nat->Prop} (h:MA X C σ w) (hM:Mv S w w') (hS: ∀k,k<X.hi-> ¬S k):MA X C σ w':=by
 have ok:=h.ok;have ht:=h.top;have hk:KeepP X.P w w':=hM.keepP fun k hk _=>hS k (by have:=ok.g;simp only[MX.S,MX.P]at*;omega);obtain⟨lf,q1,q2,q3,hb⟩:=h.blk;obtain⟨L1,f1,f2⟩:=h.f;obtain⟨L2,i1,i2⟩:=h.i;obtain⟨L3,a1,a2⟩:=h.a;refine⟨ok,⟨lf,q1,q2,q3,hM.blk hb (hS _ ok.g.2)⟩,⟨L1,hM.map f1 (hS _ ok.f.2),f2⟩,fun s=> ?_,⟨L2,hM.map i1 (hS _ ok.i.2),i2⟩,⟨L3,hM.map a1 (hS _ ok.a.2),a2⟩,fun s hs=> ?_,h.inj,h.r.keep hk,h.used,h.stk,h.rng,?_,h.t0,Nat.le_trans h.top hM.size,h.len⟩
 ·obtain⟨pv,bv,e,p1,p2⟩:=h.fr s;exact⟨pv,bv,e,p1.keep hk (fun b hb _=>hb),p2.keep hk (fun b hb _=>hb)⟩
 ·obtain⟨r1,r2,r3⟩:=h.row s hs;exact⟨hM.blk r1 (hS _ r2.2),r2,r3⟩
 ·obtain⟨t,fr,ht⟩:=h.t;refine⟨t,fr,(hM.block _ (Array.getElem?_eq_some_iff.1 ht).1 (hS _ ?_)).trans ht⟩;have:=ok.g;have:=h.t0;simp only[MX.S,MX.P]at*;omega
theorem MA.ext (h:MA X C σ w) (he:Ext w w'):MA X C σ w':=h.mv (S:=fun _=>False) (.of_ext he) (fun _ _ h=>h)
end
def haltV (k:Int):Ending:= .panicked [{v:= .iface 129 (.agg #[.int .i64 k]),recovered:=false}]
def HaltW (X:MX) (o:Oc) (w:World):Prop:=
 ∃v0 v1 v2 v3 v4 v5 A c,Blk w X.g 127 #[v0,v1,v2,v3,v4,v5, .int .i64 0, .int .i64 o.call, .int .i64 o.a0, .int .i64 o.a1, .int .i64 o.a2, .slice A o.data.length c, .int .i64 (o.used:Int)]/\Sl w A c o.data/\ ∀b i,A=some ⟨b,i,none⟩->o.data≠ []->X.hi<=b
theorem MA.halt {X:MX} {C:Cx} {σ:Ms} {w:World} (h:MA X C σ w) (k:Int):HaltW X ⟨k,0,0,0,0,[],σ.used⟩ w:=by
 obtain⟨lf,_,_,_,hb⟩:=h.blk;exact⟨_,_,_,_,_,_,none,0,hb,Sl.none_ w,fun b i e=>by cases e⟩
def StepP (X:MX) (C:Cx) (σ:Ms) (w:World) (e:Ending) (w':World):Prop:=w.grownBy w' (some X.g)/\if σ.left=0 then e=haltV 3/\HaltW X σ.long w' else e= .returned (.tuple #[])/\MA X C σ.step w'
abbrev mcells (X:MX) (lf:Int) (σ:Ms):Array Value:= #[.map (some X.bf), .map (some X.bi), .map (some X.ba),X.rv, .int .i64 lf, .int .i64 (σ.stk:Int), .int .i64 0, .int .i64 0, .int .i64 0, .int .i64 0, .int .i64 0, .slice none 0 0, .int .i64 (σ.used:Int)]
section
variable {X:MX} {C:Cx} {σ σ':Ms} {w w':World}
theorem MA.ne (h:MA X C σ w):X.bf≠X.g/\X.bi≠X.g/\X.ba≠X.g:=by
 obtain⟨lf,_,_,_,hb⟩:=h.blk;obtain⟨_,f1,_⟩:=h.f;obtain⟨_,i1,_⟩:=h.i;obtain⟨_,a1,_⟩:=h.a;exact⟨fun e=>map_blk hb (e▸f1),fun e=>map_blk hb (e▸i1),fun e=>map_blk hb (e▸a1)⟩
theorem MA.reg (h:MA X C σ w) (hM:w.grownBy w' (some X.g)) (lf:Int) (q1:lf.toNat=σ'.left) (q2: -9223372036854775808<=lf) (q3:lf<=9223372036854775807) (hb:Blk w' X.g 127 (mcells X lf σ')) (ei:σ'.ints=σ.ints) (ea:σ'.arrs=σ.arrs) (hu:σ'.used<=C.R.length) (hs:σ'.stk<=1024):MA X C σ' w':=by
 have ok:=h.ok;obtain⟨n1,n2,n3⟩:=h.ne;obtain⟨L1,f1,f2⟩:=h.f;obtain⟨L2,i1,i2⟩:=h.i;obtain⟨L3,a1,a2⟩:=h.a;have hk:KeepP X.P w w':= .of_grown hM (fun b hb e=>by injection e with e;subst e;have:=ok.g;simp only[MX.S,MX.P]at*;omega);refine⟨ok,⟨lf,q1,q2,q3,hb⟩,⟨L1,f1.grown hM (nes n1),f2⟩,fun s=> ?_,⟨L2,i1.grown hM (nes n2),fun s=>by rw[ei];exact i2 s⟩,⟨L3,a1.grown hM (nes n3),fun s=>by rw[a2 s];unfold arrV;rw[ea]⟩,fun s hs=> ?_,fun s t=>by rw[ea];exact h.inj s t,h.r.keep hk,hu,hs,fun x=>by rw[ei];exact h.rng x,h.t.grown hM (fun e=> ?_),h.t0,Nat.le_trans h.top hM.size,fun s=>by rw[ea];exact h.len s⟩
 ·obtain⟨pv,bv,e,p1,p2⟩:=h.fr s;exact⟨pv,bv,e,p1.keep hk (fun b hb _=>hb),p2.keep hk (fun b hb _=>hb)⟩
 ·rw[ea]at hs⊢;obtain⟨r1,r2,r3,r4⟩:=h.row s hs;exact⟨r1.grown hM (nes r3),r2,r3,r4⟩
 ·have:=ok.g;have:=h.t0;rw[<-e]at this;simp only[MX.S,MX.P]at*;omega
theorem grown_cell (w:World) (g i:Nat) (v:Value):w.grownBy (w.setCell ⟨g,i,none⟩ v) (some g):=⟨rfl,rfl,rfl,by simp[World.setCell],fun k _ hk=>Below.heap_setCell w _ _ k (fun e=>hk (by rw[e]))⟩
theorem MA.dec (h:MA X C σ w) {lf:Int} (hb:Blk w X.g 127 (mcells X lf σ)) (hl:lf.toNat=σ.left) (h0: ¬lf<=0) (q3:lf<=9223372036854775807):MA X C σ.step (w.setCell ⟨X.g,4,none⟩ (.int .i64 (lf-1))):=by
 refine h.reg (grown_cell w X.g 4 _) (lf-1) (by show _=σ.left-1;omega) (by omega) (by omega) ?_ rfl rfl h.used h.stk;have e:(mcells X lf σ).setIfInBounds 4 (.int .i64 (lf-1))=mcells X (lf-1) σ.step:=rfl;rw[<-e];exact hb.set 4 _
end
theorem mstep_any (X:MX) (C:Cx) (σ:Ms) (w:World) (h:MA X C σ w):Calls prog 162 #[X.p] w (StepP X C σ w):=by
 obtain⟨lf,q1,q2,q3,hb⟩:=h.blk;have HH:=hide (h.halt 3);have hc:=hb.cell;have hf:=hb.frozen;unfold StepP;by_cases h0:lf<=0
 ·have hl:σ.left=0:=by omega
  simp only[if_pos hl];clear h hb;obtain⟨g,bf,bi,ba,lo,hi,rb,fv,rv,al,mvb⟩:=X;simp only[MX.p]at*;go_enter func162,ntmps162;go_wp2_with fail;exact⟨rfl,World.grownBy.refl _ _,rfl,HH.out⟩
 ·have hl: ¬σ.left=0:=by omega
  simp only[if_neg hl];have hw1:IntKind.i64.wrap (lf-1)=lf-1:=by simp[IntKind.wrap,IntKind.signed,IntKind.bits];omega
  have HD:=hide (h.dec hb q1 h0 q3);have HG:=hide (grown_cell w X.g 4 (.int .i64 (lf-1)));clear h hb HH;obtain⟨g,bf,bi,ba,lo,hi,rb,fv,rv,al,mvb⟩:=X;simp only[MX.p]at*;go_enter func162,ntmps162;go_wp2_with fail;exact bodyPost_end (results_none rfl _ _ _) rfl ⟨HG.out,rfl,HD.out⟩
theorem tword_any (b:Bool) (w:World):Calls prog 188 #[.bool b] w fun e w'=>e= .returned (.int .i32 (word b))/\Ext w w':=by
 cases b;all_goals
  go_enter func188,ntmps188;go_wp2_with fail;go_ret;exact⟨rfl,Ext.refl _⟩
theorem tmod_rng {a b:Int} (ha:I32 a):I32 (a.tmod b):=by
 unfold I32 at ha⊢;have h1:(a.tmod b).natAbs<=a.natAbs:=by rw[Int.natAbs_tmod];exact Nat.mod_le _ _
 by_cases h:0<=a
 ·have:=Int.tmod_nonneg b h;omega
 ·have h2:0<=(-a).tmod b:=Int.tmod_nonneg b (by omega);rw[Int.neg_tmod]at h2;omega
def binEnd:ER Int->Ending
 | .ok (v,_)=> .returned (.int .i32 v)
 | .error _=>haltV 2
theorem binary_any (op:List UInt8) (a b:Int) (ha:I32 a) (hb:I32 b) (σ:Ms) (w:World):Calls prog 189 #[.string (str op), .int .i32 a, .int .i32 b] w fun e w'=>e=binEnd (binL op a b σ)/\Ext w w':=by
 unfold I32 at ha hb;have HW:=hide (fun c W=>tword_any c W);have hwr: ∀z:Int,IntKind.i32.wrap z=w32 z:=fun _=>rfl;have HX:=hide (Ext.refl w);by_cases h1:op=[43]
 ·subst h1;go_enter func189,ntmps189;go_wp2_with fail;go_ret;exact⟨rfl,HX.out⟩
 by_cases h2:op=[45]
 ·subst h2;go_enter func189,ntmps189;go_wp2_with fail;go_ret;exact⟨rfl,HX.out⟩
 by_cases h3:op=[42]
 ·subst h3;go_enter func189,ntmps189;go_wp2_with fail;go_ret;exact⟨rfl,HX.out⟩
 by_cases h4:op=[47]
 ·subst h4;by_cases hb0:b=0
  ·subst hb0;go_enter func189,ntmps189;go_wp2_with fail;exact⟨rfl,rfl,HX.out⟩
  ·have hb1:=beq_eq_false_iff_ne.2 hb0;have HE:=hide (show binL [47] a b σ= .ok (w32 (a.tdiv b),σ) by simp[binL,hb0]);go_enter func189,ntmps189;go_wp2_with fail;go_ret;exact⟨by rw[HE.out];rfl,HX.out⟩
 by_cases h5:op=[37]
 ·subst h5;by_cases hb0:b=0
  ·subst hb0;go_enter func189,ntmps189;go_wp2_with fail;exact⟨rfl,rfl,HX.out⟩
  ·have hb1:=beq_eq_false_iff_ne.2 hb0;have HE:=hide (show binL [37] a b σ= .ok (w32 (a.tmod b),σ) by simp[binL,hb0]);go_enter func189,ntmps189;go_wp2_with fail;go_ret;exact⟨by rw[HE.out,w32_id (tmod_rng ha)];rfl,HX.out⟩
 by_cases h6:op=[61,61]
 ·subst h6;go_enter func189,ntmps189;go_wp2_with (go_at_call 188;refine(HW.out _ _).mono ?_;rintro e w1 ⟨rfl,hE⟩;have HX1:=hide (HX.out.trans hE);clear hE);go_ret;exact⟨rfl,HX1.out⟩
 by_cases h7:op=[33,61]
 ·subst h7;go_enter func189,ntmps189;go_wp2_with (go_at_call 188;refine(HW.out _ _).mono ?_;rintro e w1 ⟨rfl,hE⟩;have HX1:=hide (HX.out.trans hE);clear hE);go_ret;exact⟨rfl,HX1.out⟩
 by_cases h8:op=[60]
 ·subst h8;go_enter func189,ntmps189;go_wp2_with (go_at_call 188;refine(HW.out _ _).mono ?_;rintro e w1 ⟨rfl,hE⟩;have HX1:=hide (HX.out.trans hE);clear hE);go_ret;exact⟨rfl,HX1.out⟩
 by_cases h9:op=[60,61]
 ·subst h9;go_enter func189,ntmps189;go_wp2_with (go_at_call 188;refine(HW.out _ _).mono ?_;rintro e w1 ⟨rfl,hE⟩;have HX1:=hide (HX.out.trans hE);clear hE);go_ret;exact⟨rfl,HX1.out⟩
 by_cases h10:op=[62]
 ·subst h10;go_enter func189,ntmps189;go_wp2_with (go_at_call 188;refine(HW.out _ _).mono ?_;rintro e w1 ⟨rfl,hE⟩;have HX1:=hide (HX.out.trans hE);clear hE);go_ret;exact⟨rfl,HX1.out⟩
 have n1:=beq_eq_false_iff_ne.2 h1;have n2:=beq_eq_false_iff_ne.2 h2;have n3:=beq_eq_false_iff_ne.2 h3;have n4:=beq_eq_false_iff_ne.2 h4;have n5:=beq_eq_false_iff_ne.2 h5;have n6:=beq_eq_false_iff_ne.2 h6;have n7:=beq_eq_false_iff_ne.2 h7;have n8:=beq_eq_false_iff_ne.2 h8;have n9:=beq_eq_false_iff_ne.2 h9;have n10:=beq_eq_false_iff_ne.2 h10
 have HE:=hide (show binL op a b σ= .ok (word (decide (b<=a)),σ) by
  unfold binL
  rw[if_neg h1,if_neg h2,if_neg h3,if_neg (by simp[h4,h5]),if_neg h6,if_neg h7,if_neg h8,if_neg h9,if_neg h10])
 go_enter func189,ntmps189;go_wp2_with (go_at_call 188;refine(HW.out _ _).mono ?_;rintro e w1 ⟨rfl,hE⟩;have HX1:=hide (HX.out.trans hE);clear hE);go_ret;exact⟨by rw[HE.out];rfl,HX1.out⟩
end Go.Proofs.YtddomeddabfinaaGreatDoor
namespace Go.Proofs.YtddomeddabfinaaGreatDoor
open Go.Proofs.Tryz
open Go.RowKit
section
variable {X:MX} {C:Cx} {σ σ':Ms} {w w':World}
theorem MA.lookA (h:MA X C σ w) {s:List UInt8} (hs:s.length<=1073741824):(Instr.lookup 125 (.map (some X.ba)) (.string (str s)) false).run prog w= .ok (arrV X σ s) w:=by
 obtain⟨L,a1,a2⟩:=h.a;rw[(a1.look mtA (by unfold maxLen;omega)).1,a2]
theorem MA.lookI (h:MA X C σ w) {s:List UInt8} (hs:s.length<=1073741824):(Instr.lookup 124 (.map (some X.bi)) (.string (str s)) false).run prog w= .ok (.int .i32 (σ.ints s)) w:=by
 obtain⟨L,a1,a2⟩:=h.i;rw[(a1.look mtW (by unfold maxLen;omega)).1,a2]
theorem MA.mcell (h:MA X C σ w): ∃lf:Int,lf.toNat=σ.left/\Blk w X.g 127 (mcells X lf σ):=by
 obtain⟨lf,q1,_,_,hb⟩:=h.blk;exact⟨lf,q1,hb⟩
end
def elEnd (X:MX) (σ:Ms) (nm:List UInt8) (i:Int):Ending:=if 0<=i/\i<(σ.arrs nm).length then .returned (.pointer (some ⟨X.rb nm,i.toNat,none⟩))else haltV 2
theorem element_any (X:MX) (C:Cx) (σ:Ms) (w:World) (h:MA X C σ w) (nm:List UInt8) (hn:nm.length<=1073741824) (i:Int) (hi:I32 i):
  Calls prog 166 #[X.p, .string (str nm), .int .i32 i] w fun e w'=>e=elEnd X σ nm i/\Ext w w':=by
 have fl:=h.lookA hn;obtain⟨lf,_,hb⟩:=h.mcell;have hc:=hb.cell;have HX:=hide (Ext.refl w);unfold I32 at hi;have hrow:=h.row nm;clear h hb;by_cases h0:i<0
 ·have HE:=hide (show elEnd X σ nm i=haltV 2 by unfold elEnd;rw[if_neg (by omega)]);have h0d:decide (i<0)=true:=decide_eq_true h0;obtain⟨g,bf,bi,ba,lo,hi,rb,fv,rv,al,mvb⟩:=X;simp only[MX.p,mcells]at*;generalize arrV _ σ nm=av at*;go_enter func166,ntmps166;go_wp2_with fail;exact⟨rfl,by rw[HE.out];rfl,HX.out⟩
 ·obtain⟨k,rfl⟩:=Int.eq_ofNat_of_zero_le (show 0<=i by omega);have h0d:decide ((k:Int)<0)=false:=decide_eq_false h0;have hcv:IntKind.i64.wrap (k:Int)=k:=by simp[IntKind.wrap,IntKind.signed,IntKind.bits];omega
  by_cases he:σ.arrs nm=[]
  ·have HE:=hide (show elEnd X σ nm k=haltV 2 by unfold elEnd;rw[he,if_neg (by simp)]);have e1:arrV X σ nm= .slice none 0 0:=by unfold arrV;rw[if_pos he]
   rw[e1]at fl;obtain⟨g,bf,bi,ba,lo,hi,rb,fv,rv,al,mvb⟩:=X;simp only[MX.p,mcells]at*;clear hrow;go_enter func166,ntmps166;go_wp2_with fail;exact⟨rfl,by rw[HE.out];rfl,HX.out⟩
  ·have e1:arrV X σ nm= .slice (some ⟨X.rb nm,0,none⟩) (σ.arrs nm).length (σ.arrs nm).length:=by unfold arrV;rw[if_neg he]
   obtain⟨_,_,_,hlen⟩:=hrow he;rw[e1]at fl;obtain⟨n,hnn⟩: ∃n,(σ.arrs nm).length=n:=⟨_,rfl⟩
   rw[hnn]at fl hlen;by_cases hk:k<n
   ·have hk':(k:Int)<n:=by omega
    have HE:=hide (show elEnd X σ nm k= .returned (.pointer (some ⟨X.rb nm,k,none⟩)) by unfold elEnd;rw[hnn,if_pos (by omega)];rfl);obtain⟨g,bf,bi,ba,lo,hi,rb,fv,rv,al,mvb⟩:=X;simp only[MX.p,mcells]at*;clear hnn e1 hrow;go_enter func166,ntmps166;go_wp2_with fail;go_ret;exact⟨by rw[HE.out];simp,HX.out⟩
   ·have hk': ¬(k:Int)<n:=by omega
    have HE:=hide (show elEnd X σ nm k=haltV 2 by unfold elEnd;rw[hnn,if_neg (by omega)]);obtain⟨g,bf,bi,ba,lo,hi,rb,fv,rv,al,mvb⟩:=X;simp only[MX.p,mcells]at*;clear hnn e1 hrow;go_enter func166,ntmps166;go_wp2_with fail;exact⟨rfl,by rw[HE.out];rfl,HX.out⟩
def kLoc (l:Lo):KF:=fun s=>(l s).map (.int .i32)
abbrev fcells (lb:Nat) (ret:Option Int):Array Value:= #[.map (some lb), .bool ret.isSome, .int .i32 (ret.getD 0)]
structure FR (fb lb:Nat) (l:Lo) (ret:Option Int) (w:World):Prop where
 blk:Blk w fb 182 (fcells lb ret)
 m:MapIs w lb (kLoc l)
 rng:LoI l
section
variable {X:MX} {C:Cx} {σ σ':Ms} {w w':World} {fb lb:Nat} {l:Lo} {ret:Option Int}
theorem FR.ne (h:FR fb lb l ret w):lb≠fb:=fun e=>map_blk h.blk (e▸h.m)
theorem FR.mv {S:Nat->Prop} (h:FR fb lb l ret w) (hM:Mv S w w') (h1: ¬S fb) (h2: ¬S lb):FR fb lb l ret w':=⟨hM.blk h.blk h1,hM.map h.m h2,h.rng⟩
theorem FR.ext (h:FR fb lb l ret w) (he:Ext w w'):FR fb lb l ret w':=⟨h.blk.ext he,h.m.ext he,h.rng⟩
theorem FR.look (h:FR fb lb l ret w) {s:List UInt8} (hs:s.length<=1073741824):(Instr.lookup 124 (.map (some lb)) (.string (str s)) true).run prog w= .ok (.tuple #[.int .i32 ((l s).getD 0), .bool (l s).isSome]) w:=by
 rw[(h.m.look mtW (by unfold maxLen;omega)).2];simp only[kLoc]
 cases l s<;>rfl
theorem FR.upd {nm:List UInt8} {v:Int} (h:FR fb lb l ret w) (hv:I32 v) (hm:MapIs w' lb ((kLoc l).upd nm (.int .i32 v))) (hg:w.grownBy w' (some lb)):FR fb lb (l.upd nm v) ret w':=by
 refine⟨h.blk.grown hg (nes (Ne.symm h.ne)),hm.congr fun s=> ?_,h.rng.upd hv⟩;unfold KF.upd kLoc Lo.upd;by_cases e:s=nm
 ·rw[if_pos e,if_pos e];rfl
 ·rw[if_neg e,if_neg e]
theorem MA.setI {nm:List UInt8} {v:Int} {L:KF} (h:MA X C σ w) (hv:I32 v) (h2: ∀s,(L s).getD (.int .i32 0)= .int .i32 (σ.ints s)) (hm:MapIs w' X.bi (L.upd nm (.int .i32 v))) (hg:w.grownBy w' (some X.bi)):MA X C (σ.setI nm v) w':=by
 have ok:=h.ok;obtain⟨lf,q1,q2,q3,hb⟩:=h.blk;obtain⟨L1,f1,f2⟩:=h.f;obtain⟨L3,a1,a2⟩:=h.a;have hk:KeepP X.P w w':= .of_grown hg (fun b hb e=>by injection e with e;subst e;have:=ok.i;have:=ok.g;simp only[MX.S,MX.P]at*;omega);refine⟨ok,⟨lf,q1,q2,q3,hb.grown hg (nes (Ne.symm h.ne.2.1))⟩,⟨L1,f1.grown hg (nes ok.fi),f2⟩,fun s=> ?_,⟨_,hm,fun s=> ?_⟩,⟨L3,a1.grown hg (nes (Ne.symm ok.ia)),a2⟩,fun s hs=> ?_,h.inj,h.r.keep hk,h.used,h.stk,h.rng.setI hv,h.t.grown hg (fun e=> ?_),h.t0,Nat.le_trans h.top hg.size,h.len⟩
 ·obtain⟨pv,bv,e,p1,p2⟩:=h.fr s;exact⟨pv,bv,e,p1.keep hk (fun b hb _=>hb),p2.keep hk (fun b hb _=>hb)⟩
 ·show((L.upd nm (.int .i32 v)) s).getD _= .int .i32 (if s=nm then v else σ.ints s);unfold KF.upd;split
  ·rfl
  ·exact h2 s
 ·obtain⟨r1,r2,r3,r4⟩:=h.row s hs;refine⟨r1.grown hg (nes fun e=> ?_),r2,r3,r4⟩;obtain⟨_,i1,_⟩:=h.i;exact map_blk r1 (e▸i1)
 ·have:=ok.i;have:=h.t0;rw[<-e]at this;simp only[MX.S,MX.P]at*;omega
end
def AsP (X:MX) (C:Cx) (σ:Ms) (fb lb:Nat) (l:Lo) (ret:Option Int) (nm:List UInt8) (v:Int) (w:World) (e:Ending) (w':World):Prop:=
 e= .returned (.tuple #[])/\Mv (fun k=>k=lb\/k=X.bi) w w'/\if(l nm).isSome=true then MA X C σ w'/\FR fb lb (l.upd nm v) ret w' else MA X C (σ.setI nm v) w'/\FR fb lb l ret w'
theorem assign_any (X:MX) (C:Cx) (σ:Ms) (w:World) (h:MA X C σ w) (fb lb:Nat) (l:Lo) (ret:Option Int) (hF:FR fb lb l ret w) (hfl:X.hi<=fb/\X.hi<=lb) (nm:List UInt8) (hn:nm.length<=1073741824) (v:Int) (hv:I32 v):
  Calls prog 165 #[X.p, .pointer (some ⟨fb,0,none⟩), .string (str nm), .int .i32 v] w (AsP X C σ fb lb l ret nm v w):=by
 have fl:=hF.look hn;have fc:=hF.blk.cell;obtain⟨lf,_,hb⟩:=h.mcell;have hc:=hb.cell;have ok:=h.ok;unfold AsP
 cases hl:(l nm).isSome with
 |true=>
  simp only[if_true];rw[hl]at fl;have HF:=hide hF;have HMv:=hide (fun W (hg:w.grownBy W (some lb))=>h.mv (.of_grown (S:=fun k=>k=lb) hg (fun k e=>by injection e with e;exact e.symm)) (fun k hk e=>by have:=hfl.2;omega));clear h hF hb ok;obtain⟨g,bf,bi,ba,lo,hi,rb,fv,rv,al,mvb⟩:=X;simp only[MX.p,mcells,fcells]at*;generalize (l nm).getD 0=q at*;go_enter func165,ntmps165;go_wp2_with (at_mapUpdate;refine wpList_store mtW rfl _ _ _ rfl HF.out.m rfl (by unfold maxLen;omega) rfl _ rfl ?_;intro w8 hm8 hg8;have HG:=hide hg8;have HF8:=hide (HF.out.upd hv hm8 hg8);clear hm8 hg8);exact bodyPost_ret (results_none rfl _ _ _) rfl ⟨rfl, .of_grown HG.out (fun k e=>by injection e with e;exact .inl e.symm),HMv.out _ HG.out,HF8.out⟩
 |false=>
  simp only[Bool.false_eq_true,if_false];rw[hl]at fl;obtain⟨L,i1,i2⟩:=h.i;have HI:=hide i1;have HS:=hide (fun W (hm:MapIs W X.bi (L.upd nm (.int .i32 v))) (hg:w.grownBy W (some X.bi))=>h.setI hv i2 hm hg);have HF:=hide (fun W (hg:w.grownBy W (some X.bi))=>hF.mv (.of_grown (S:=fun k=>k=X.bi) hg (fun k e=>by injection e with e;exact e.symm)) (fun e=>by have:=ok.i;have:=hfl.1;simp only[MX.S]at*;omega) (fun e=>by have:=ok.i;have:=hfl.2;simp only[MX.S]at*;omega));clear h hF hb ok i1 i2;obtain⟨g,bf,bi,ba,lo,hi,rb,fv,rv,al,mvb⟩:=X;simp only[MX.p,mcells,fcells]at*;generalize (l nm).getD 0=q at*;go_enter func165,ntmps165;go_wp2_with (at_mapUpdate;refine wpList_store mtW rfl _ _ _ rfl HI.out rfl (by unfold maxLen;omega) rfl _ rfl ?_;intro w8 hm8 hg8;have HG:=hide hg8;have HS8:=hide (HS.out _ hm8 hg8);clear hm8 hg8);exact bodyPost_end (results_none rfl _ _ _) rfl ⟨rfl, .of_grown HG.out (fun k e=>by injection e with e;exact .inr e.symm),HS8.out,HF.out _ HG.out⟩
end Go.Proofs.YtddomeddabfinaaGreatDoor
namespace Go.Proofs.YtddomeddabfinaaGreatDoor
open Go.Proofs.Tryz
open Go.RowKit
structure DQ (w:World) (pb fb lb:Nat) (P:Nat->Prop) (l:Lo) (ret:Option Int) (cs:Array Value) (bd el:List St) (A2 A3:Option Addr) (c2 c3:Nat) (W:World):Prop where
 gr:w.grownBy W (some lb)
 fr:FR fb lb l ret W
 bk:Blk W pb 72 cs
 rb:RdS W P (.slice A2 bd.length c2) bd
 rl:RdS W P (.slice A3 el.length c3) el
 hP: ∀b,P b->b≠lb
 ne:lb≠pb
section
variable {w W W':World} {pb fb lb:Nat} {P:Nat->Prop} {l l':Lo} {ret:Option Int} {cs:Array Value} {bd el:List St} {A2 A3:Option Addr} {c2 c3:Nat}
theorem DQ.ext (h:DQ w pb fb lb P l ret cs bd el A2 A3 c2 c3 W) (he:Ext W W'):DQ w pb fb lb P l ret cs bd el A2 A3 c2 c3 W':=
 ⟨h.gr.trans (he.grownBy _),h.fr.ext he,h.bk.ext he,h.rb.keep (.of_ext he) (fun b hb _=>hb),h.rl.keep (.of_ext he) (fun b hb _=>hb),h.hP,h.ne⟩
theorem DQ.grown (h:DQ w pb fb lb P l ret cs bd el A2 A3 c2 c3 W) (hg:W.grownBy W' (some lb)) (hc:FR fb lb l' ret W'):DQ w pb fb lb P l' ret cs bd el A2 A3 c2 c3 W':=by
 have hk:KeepP P W W':= .of_grown hg (fun b hb e=>h.hP b hb (by injection e));exact⟨h.gr.trans hg,hc,h.bk.grown hg (fun e=>h.ne (by injection e with e;exact e.symm)),h.rb.keep hk (fun b hb _=>hb),h.rl.keep hk (fun b hb _=>hb),h.hP,h.ne⟩
end
theorem defL_drop {l:Lo} {xs:List St} {j:Nat} (h:j<xs.length):defL l (xs.drop j)=defL (defS l xs[j]) (xs.drop (j+1)):=by
 rw[List.drop_eq_getElem_cons h,defL]
def DfP (fb lb:Nat) (l:Lo) (ret:Option Int) (w:World) (e:Ending) (w':World):Prop:=e= .returned (.tuple #[])/\w.grownBy w' (some lb)/\FR fb lb l ret w'
def DfS (xs:List St):Prop:= ∀(g fb lb:Nat) (l:Lo) (ret:Option Int) (P:Nat->Prop) (w:World) (A:Option Addr) (n c:Nat),FR fb lb l ret w->RdS w P (.slice A n c) xs->(∀b,P b->b≠lb)->
 Calls prog 85 #[.pointer (some ⟨g,0,none⟩), .pointer (some ⟨fb,0,none⟩), .slice A n c] w (DfP fb lb (defL l xs) ret w)
theorem def_step (xs:List St) (hl:xs.length<=1073741824) (hnmx: ∀s∈xs,s.nm.length<=1073741824) (hIH: ∀s∈xs,DfS s.body/\DfS s.els):DfS xs:=by
 intro g fb lb l ret P w A n c hK hR hP;obtain⟨A',c',hv,hf⟩:=hR.form;injection hv with hv1 hv2 hv3;subst hv1 hv2 hv3;have HR:=hide hR;have HI:=hide hIH;have HNM:=hide hnmx;have HK0:=hide hK;obtain⟨N,hN⟩: ∃N,xs.length=N:=⟨_,rfl⟩
 have HN:=hide hN;rw[hN]at HR hl;obtain⟨Rv,hRv⟩: ∃R,defL l xs=R:=⟨_,rfl⟩
 have HQ0:=hide (show defL l (xs.drop 0)=Rv from hRv);have HX0:=hide (World.grownBy.refl w (some lb));clear hR hf hIH hK hnmx;rw[hN,hRv];clear hN hRv;go_enter func85,ntmps85;go_wp2_with fail
 go_loopw [10] (fun vi wr=> ∃(j:Nat) (lj:Lo),vi= .int .i64 (j:Int)/\j<=N/\Hid (defL lj (xs.drop j)=Rv)/\Hid (w.grownBy wr (some lb))/\Hid (FR fb lb lj ret wr)) (fun vi _=>N-(intOf vi).toNat)
 case atStart=>exact⟨0,l,rfl,Nat.zero_le _,HQ0,HX0,HK0⟩
 case round=>
  obtain⟨j,lj,rfl,hj,HQR,HX,HKj⟩:=hrel;by_cases hlt:j<N
  ·have hlt':(j:Int)<N:=by omega
   have hjl:j<xs.length:=by have:=HN.out;omega
   obtain⟨b,o,e,bv,lv,rfl,hb,hPb,h0,h1,h2,h3,h4,hRe,hRb,hRl⟩:=HR.out.at_ j hjl;have hS:=defL_drop (l:=lj) hjl;have hnm:=HNM.out _ (List.getElem_mem hjl);have hII:=HI.out _ (List.getElem_mem hjl);obtain⟨y,hy⟩: ∃y,xs[j]=y:=⟨_,rfl⟩
   rw[hy]at h0 h1 hRe hRb hRl hS hnm hII;clear hy;obtain⟨k,nm,ex,bd,el⟩:=y;simp only[St.k,St.nm,St.ex,St.body,St.els]at h0 h1 hRe hRb hRl hnm hII;have hKP:KeepP P w wr:= .of_grown HX.out (fun b hb e=>hP b hb (by injection e));have e0:=(hKP.cell _ hPb hb).trans h0;have e1:=(hKP.cell _ hPb hb).trans h1;have e2:=(hKP.cell _ hPb hb).trans h2;have e3:=(hKP.cell _ hPb hb).trans h3;have e4:=(hKP.cell _ hPb hb).trans h4;obtain⟨A1,c1,rfl,_⟩:=hRe.form;obtain⟨A2,c2,rfl,_⟩:=hRb.form;obtain⟨A3,c3,rfl,_⟩:=hRl.form;have hAl:=Ext.alloc wr (.cells #[.int .i64 k, .string (str nm), .slice A1 ex.length c1, .slice A2 bd.length c2, .slice A3 el.length c3] 72)
   have HQ:=hide (show DQ w wr.heap.size fb lb P lj ret #[.int .i64 k, .string (str nm), .slice A1 ex.length c1, .slice A2 bd.length c2, .slice A3 el.length c3] bd el A2 A3 c2 c3 (wr.alloc (.cells #[.int .i64 k, .string (str nm), .slice A1 ex.length c1, .slice A2 bd.length c2, .slice A3 el.length c3] 72))from
    ⟨HX.out.trans (hAl.grownBy _),HKj.out.ext hAl,Blk.new wr _ _,(hRb.keep hKP (Q:=P) (fun b hb _=>hb)).keep (.of_ext hAl) (fun b hb _=>hb),(hRl.keep hKP (Q:=P) (fun b hb _=>hb)).keep (.of_ext hAl) (fun b hb _=>hb),hP,Nat.ne_of_lt HKj.out.m.lt⟩)
   have HB1:=hide hII.1;have HL1:=hide hII.2;clear h0 h1 h2 h3 h4 hRe hRb hRl hII hAl hKP HR HI HNM;rw[defS]at hS;by_cases hk1:k=1
   ·subst hk1;rw[if_pos rfl]at hS;obtain⟨l1,hl1⟩: ∃x,lj.upd nm 0=x:=⟨_,rfl⟩
    rw[hl1]at hS;have HF:=hide (show defL (defL (defL l1 bd) el) (xs.drop (j+1))=Rv from hS.symm.trans HQR.out);go_wp2_with fail;refine wp_region_ext 6 1 [] mixed (by kernel_rfl) trivial ?_;repeat (refine sx ?_ (fun w1 hU=> ?_) ?_;rotate_left;(focus have f0:=(HQ.out.ext hU.un).bk.cell;have fk:=(HQ.out.ext hU.un).fr.blk.cell;clear hU;go_simp<;>with_reducible rfl);simp only[pq0,pq1,pq2,pq3,pq4])
    intro w7 hw7 _;simp only[List.drop_succ_cons,List.drop_zero];replace HQ:=hide (HQ.out.ext hw7.un);clear hw7;have HT1:True:=trivial;go_wp2_with (first|(at_mapUpdate;refine wpList_store mtW rfl _ _ _ rfl HQ.out.fr.m rfl (by unfold maxLen;omega) rfl _ rfl ?_;intro w8 hm8 hg8;replace HQ:=hide (HQ.out.grown hg8 (HQ.out.fr.upd (by decide) hm8 hg8));rw[hl1]at HQ;clear hm8 hg8;have f0:=HQ.out.bk.cell)|(go_at_call 85;clear HT1;refine(HB1.out g fb lb l1 ret P _ A2 _ c2 HQ.out.fr HQ.out.rb hP).mono ?_;rintro e wx ⟨rfl,hg,hf⟩;replace HQ:=hide (HQ.out.grown hg hf);clear hg hf;(try clear f0);have f0:=HQ.out.bk.cell)|(go_at_call 85;refine(HL1.out g fb lb (defL l1 bd) ret P _ A3 _ c3 HQ.out.fr HQ.out.rl hP).mono ?_;rintro e wx ⟨rfl,hg,hf⟩;replace HQ:=hide (HQ.out.grown hg hf);clear hg hf));go_roundw
    case rel=>exact⟨j+1,_,by go_num,by omega,HF,hide HQ.out.gr,hide HQ.out.fr⟩
    case measure=>simp[intOf];omega
   ·rw[if_neg hk1]at hS;have HF:=hide (show defL (defL (defL lj bd) el) (xs.drop (j+1))=Rv from hS.symm.trans HQR.out);have n1:=beq_eq_false_iff_ne.2 hk1;have HT1:True:=trivial;go_wp2_with (first|(go_at_call 85;clear HT1;refine(HB1.out g fb lb lj ret P _ A2 _ c2 HQ.out.fr HQ.out.rb hP).mono ?_;rintro e wx ⟨rfl,hg,hf⟩;replace HQ:=hide (HQ.out.grown hg hf);clear hg hf;(try clear f0);have f0:=HQ.out.bk.cell)|(go_at_call 85;refine(HL1.out g fb lb (defL lj bd) ret P _ A3 _ c3 HQ.out.fr HQ.out.rl hP).mono ?_;rintro e wx ⟨rfl,hg,hf⟩;replace HQ:=hide (HQ.out.grown hg hf);clear hg hf));go_roundw
    case rel=>exact⟨j+1,_,by go_num,by omega,HF,hide HQ.out.gr,hide HQ.out.fr⟩
    case measure=>simp[intOf];omega
  ·have hlt': ¬(j:Int)<N:=by omega
   have HFn:=hide (show lj=Rv by
    have:=HQR.out;rw[List.drop_of_length_le (by have:=HN.out;omega),defL]at this
    exact this)
   go_wp2_with fail;exact bodyPost_end (results_none rfl _ _ _) rfl ⟨rfl,HX.out,by rw[<-HFn.out];exact HKj.out⟩
theorem define_any: ∀(m:Nat) (xs:List St),wtS xs<=m->wtS xs<=1073741824->DfS xs
 |0,xs,h,hw=>def_step xs (by have:=wtS_length xs;omega) (fun s hs=>by have:=wtS_mem hs;have:=s.wt_eq;omega) (fun s hs=>by have:=wtS_mem hs;have:=s.wt_eq;omega)
 |m+1,xs,h,hw=>def_step xs (by have:=wtS_length xs;omega) (fun s hs=>by have:=wtS_mem hs;have:=s.wt_eq;omega)
   (fun s hs=>⟨define_any m s.body (by have:=wtS_mem hs;have:=s.wt_eq;omega) (by have:=wtS_mem hs;have:=s.wt_eq;omega),define_any m s.els (by have:=wtS_mem hs;have:=s.wt_eq;omega) (by have:=wtS_mem hs;have:=s.wt_eq;omega)⟩)
end Go.Proofs.YtddomeddabfinaaGreatDoor
namespace Go.Proofs.YtddomeddabfinaaGreatDoor
open Go.Proofs.Tryz
section
variable (R:Rs) (k:Nat)
variable {R k}
variable (hk:k<=R.length)
include hk
end
end Go.Proofs.YtddomeddabfinaaGreatDoor
