/-
  Parts of the proof: TyCk PaC TyAv TyN TyO TyDf TyX TyRn TyEx TySk TyRu TySv TyCl TyEy TySya TySyb.
-/
import Derived.Test.YtddomeddabfinaaGreatDoorTu20
import Derived.Test.YtddomeddabfinaaGreatDoorTu22
import Derived.Test.YtddomeddabfinaaGreatDoorTu15
import Derived.Test.YtddomeddabfinaaGreatDoorTu18
import Derived.Test.YtddomeddabfinaaGreatDoorTu00
import Derived.Test.YtddomeddabfinaaGreatDoorTu19
set_option maxRecDepth 100000
set_option maxHeartbeats 8000000
set_option linter.unusedVariables false
set_option linter.unusedSimpArgs false
set_option linter.unusedSectionVars false
namespace Go.Proofs.YtddomeddabfinaaGreatDoor
open Go.Proofs.Tryz
section
open Go.RowKit
def gO (p:Pg):Er:=if fa p=true then(match fT p with| .ok _=>([],0)| .error e=>e)else([],1)
structure CW (w:World) (sv sf x y:Value) (W:World):Prop where
 e:au w W
 b0:aO W w.heap.size 34 #[sv,sf]
 b1:aO W (w.heap.size+1) 9 #[x]
 b2:aO W (w.heap.size+1+1) 28 #[y]
theorem zw (w:World) (sv sf x y:Value):CW w sv sf x y (((w.alloc (.cells #[sv,sf] 34)).alloc (.cells #[x] 9)).alloc (.cells #[y] 28)):=by
 refine⟨((O w _).alloc' _).alloc' _,((ax w _ _).alloc _).alloc _,?_,?_⟩
 ·have:=(ax (w.alloc (.cells #[sv,sf] 34)) 9 #[x]).alloc (.cells #[y] 28);rwa [World.size_alloc]at this
 ·have:=ax ((w.alloc (.cells #[sv,sf] 34)).alloc (.cells #[x] 9)) 28 #[y];rwa [World.size_alloc,World.size_alloc]at this
section
variable {w W W':World} {sv sf x y:Value}
theorem CW.ex (h:CW w sv sf x y W) (hE:au W W'):CW w sv sf x y W':=⟨h.e.trans hE,h.b0.ext hE,h.b1.ext hE,h.b2.ext hE⟩
theorem CW.lt (h:CW w sv sf x y W):w.heap.size+1+1<W.heap.size:=h.b2.lt
theorem CW.put (h:CW w sv sf x y W) (p q:Value):CW w sv sf p q ((W.setCell ⟨w.heap.size+1,0,none⟩ p).setCell ⟨w.heap.size+1+1,0,none⟩ q):=by
 refine⟨(h.e.set (by show w.heap.size<=w.heap.size+1;omega) _).set (by show w.heap.size<=w.heap.size+1+1;omega) _,(h.b0.far (p:=⟨w.heap.size+1,0,none⟩) (by show _≠w.heap.size+1;omega) _).far (p:=⟨w.heap.size+1+1,0,none⟩) (by show _≠w.heap.size+1+1;omega) _,?_,?_⟩
 ·have:=(h.b1.set 0 p).far (p:=⟨w.heap.size+1+1,0,none⟩) (by show _≠w.heap.size+1+1;omega) q;simpa using this
 ·have:=(h.b2.far (p:=⟨w.heap.size+1,0,none⟩) (by show _≠w.heap.size+1;omega) p).set 0 q;simpa using this
theorem CW.mv {S:Nat->Prop} (h:CW w sv sf x y W) (hM:Mv S W W') (hS: ∀k,k<=w.heap.size+1+1-> ¬S k):CW w sv sf x y W':=by
 have hl:=h.lt;have hE:au w W':=⟨hM.os.trans h.e.os,hM.tape.trans h.e.tape,hM.output.trans h.e.output,a_ h.e.size hM.size,fun k hk=>(hM.block k (by omega) (hS k (by omega))).trans (h.e.obj hk)⟩
 exact⟨hE,hM.blk h.b0 (hS _ (by omega)),hM.blk h.b1 (hS _ (by omega)),hM.blk h.b2 (hS _ (by omega))⟩
theorem CW.drew (h:CW w sv sf x y W):CW w sv sf x y W.drew:=⟨h.e.drew,h.b0.drew,h.b1.drew,h.b2.drew⟩
end
theorem pi (p0 p1:Value) (w:World):
  CallsD prog 36 #[p0,p1] .returning w fun e u' w'=>e= .returned (.tuple #[])/\u'= .returning/\w'=w:=by
 refine callsD_of_wpS func36 rfl fun c₀ cs hu=> ?_;apply wpS_seq;apply wpS_region;simp[wpOpsS,go_sem,recoverD,hu,ntmps36,Exit.thenS];apply wpS_seq;apply wpS_region;simp[wpOpsS,go_sem,Exit.thenS];refine wpS_cond (t:=false) (by simp[Act.eval]) ?_;simp only[bR,if_false];refine wpS_of_wp (wp_skip ?_)
 cases c₀;simp_all[bodyPostS,results,results36]
theorem og (W0 w:World) (sv sf x y:Value) (nm:List UInt8) (n:Int) (older:List PanicEntry) (H:CW W0 sv sf x y w):
  CallsD prog 36 #[.pointer (some ⟨W0.heap.size+1,0,none⟩), .pointer (some ⟨W0.heap.size+1+1,0,none⟩)] (.panicking ({v:= .iface 102 (.agg #[.string (ag nm), .int .i64 n]),recovered:=false}::older)) w fun e u' w'=>
   e= .returned (.tuple #[])/\u'= .panicking ({v:= .iface 102 (.agg #[.string (ag nm), .int .i64 n]),recovered:=true}::older)/\CW W0 sv sf (.string (ag nm)) (.int .i64 n) w':=by
 have hx:=O w (.cells #[.string (ag nm), .int .i64 n] 102);have HBw:=G (ax w 102 #[.string (ag nm), .int .i64 n]);have HC:=G (H.ex hx);have hlt:=H.lt;clear hx H;refine callsD_of_wpS func36 rfl fun c₀ cs hu=> ?_;apply wpS_seq;apply wpS_region;simp[wpOpsS,go_sem,recoverD,hu,ntmps36,Exit.thenS];have hT: ∀v a b:Value,#[a,b]++((Array.replicate 18 undef).setIfInBounds 3 v).setIfInBounds 0 v= #[a,b,v,undef,undef,v,undef,undef,undef,undef,undef,undef,undef,undef,undef,undef,undef,undef,undef,undef]:=by
  intro v a b;apply Array.ext';simp[List.replicate_succ]
 rw[hT];clear hT;apply wpS_seq;apply wpS_region;simp[wpOpsS,go_sem,Exit.thenS];refine wpS_cond (t:=true) (by simp[Act.eval]) ?_;simp only[if_true];refine wpS_of_wp ?_;have hta: ∀(v:Value) (xT:TypeId) (w:World),(Instr.typeAssert (.iface 102 v) xT 102 true).run prog w= .ok (.tuple #[v, .bool true]) w:=fun v xT w=>by simp[Instr.typeAssert,run_underlying underlying102]
 go_wp2_with fail;clear hta;have hb:=HBw.out.cell;have c1:=HC.out.b1.cell;have c2:=HC.out.b2.cell;have z1:=HC.out.b1.frozen;have z2:=HC.out.b2.frozen;have m1:w.heap.size≠W0.heap.size+1:=by omega
 have m2:w.heap.size≠W0.heap.size+1+1:=by omega
 have m3:W0.heap.size+1≠W0.heap.size+1+1:=by omega
 generalize w.alloc (.cells #[.string (ag nm), .int .i64 n] 102)=w5 at*;go_region;have hfin:=HC.out.put (.string (ag nm)) (.int .i64 n);refine⟨rfl,_,rfl, .tuple #[],?_,rfl,rfl,hfin.drew⟩;simp[results,results36]
theorem v6 (w:World) (sv sf:Value) (ht:BT w):CK ⟨w.heap.size+1+1+1,w.heap.size,w.heap.size+1,w.heap.size+1+1,sv,sf⟩ k' (.map none) ek ((((w.alloc (.map #[] 0)).alloc (.map #[] 0)).alloc (.map #[] 0)).alloc (.cells #[sv,sf, .map (some w.heap.size), .map (some (w.heap.size+1)), .map (some (w.heap.size+1+1)), .map none] 108)):=by
 have e1:=O w (.map #[] 0);have e2:=O (w.alloc (.map #[] 0)) (.map #[] 0);have e3:=O ((w.alloc (.map #[] 0)).alloc (.map #[] 0)) (.map #[] 0);have e4:=O (((w.alloc (.map #[] 0)).alloc (.map #[] 0)).alloc (.map #[] 0)) (.cells #[sv,sf, .map (some w.heap.size), .map (some (w.heap.size+1)), .map (some (w.heap.size+1+1)), .map none] 108);have m1:=(((iJ w).ext e2).ext e3).ext e4;have m2:=((iJ (w.alloc (.map #[] 0))).ext e3).ext e4;have m3:=(iJ ((w.alloc (.map #[] 0)).alloc (.map #[] 0))).ext e4;have b:=ax (((w.alloc (.map #[] 0)).alloc (.map #[] 0)).alloc (.map #[] 0)) 108 #[sv,sf, .map (some w.heap.size), .map (some (w.heap.size+1)), .map (some (w.heap.size+1+1)), .map none];simp only[World.size_alloc]at m1 m2 m3 b;exact⟨b,m1.congr fun s=>rfl,m2.congr fun s=>rfl,m3.congr fun s=>rfl, .inl ⟨rfl,rfl⟩,(((ht.ext e1).ext e2).ext e3).ext e4⟩
theorem nV (p:Pg) (hw:jS p<=6000000) (P:Nat->Prop) (w:World) (A B:Option Addr) (n c m d:Nat) (hV:fH w P (.slice A n c) p.vs) (hF:fO w P (.slice B m d) p.fs) (hT:dn w w.heap.size) (hB:BT w):
  Calls prog 13 #[.agg #[.slice A n c, .slice B m d]] w fun e w'=>e= .returned (.tuple #[.string (ag (gO p).1), .int .i64 (gO p).2])/\au w w':=by
 have hmm:= @run_makeMap prog;have hmf: ∀(fn:Fn) (first cap:Array Value) (w:World),(Instr.makeFunc fn first cap).run prog w= .ok (.func fn first cap) w:=fun _ _ _ _=>rfl;have HW0:=G (zw w (.slice A n c) (.slice B m d) (.string ⟨#[]⟩) (.int .i64 0));have HV:=G (hV.keep (Q:=fun b=>b<w.heap.size) ⟨an _,fun _ _ _=>rfl⟩ (fun b h1 h2=>h2));have HF:=G (hF.keep (Q:=fun b=>b<w.heap.size) ⟨an _,fun _ _ _=>rfl⟩ (fun b h1 h2=>h2));have HVD:=G (fun W (h:au w W)=>rB p hw (fun b=>b<w.heap.size) W A B n c m d (HV.out.keep (.of_ext h) (fun b hb _=>hb)) (HF.out.keep (.of_ext h) (fun b hb _=>hb)) (fh hT h));have HB:=G hB;have HL:=G (show gO p=if fa p=true then(match fT p with| .ok _=>([],0)| .error e=>e)else([],1)from rfl);have HAL:=G (fun(X:CB) (hX:X.Ok) hg W h1 h2 h3 h4=>ug p hw X hX hg (fun b=>b<w.heap.size) W h1 h2 h3 h4);have hg0:0<w.heap.size:=by obtain⟨t,fr,h⟩:=hB;exact(Array.getElem?_eq_some_iff.1 h).1
 clear hV hF hT hB;generalize fa p=ok at*;generalize fT p=r at*
 cases ok with
 |false=>
  have HQ:=G (show gO p=([],1)from HL.out);go_enter_defers func13,ntmps13;go_wp2_with (go_at_call 35;refine(HVD.out _ HW0.out.e).mono ?_;rintro e w1 ⟨rfl,hE⟩;have HW1:=G (HW0.out.ex hE);have c1:=HW1.out.b1.cell;have z1:=HW1.out.b1.frozen;have c2:=HW1.out.b2.cell;have z2:=HW1.out.b2.frozen;clear hE);have HW2:=G (HW1.out.put (.string ⟨#[]⟩) (.int .i64 1));have d1:=HW2.out.b1.cell;have d2:=HW2.out.b2.cell;refine⟨.tuple #[.string ⟨#[]⟩, .int .i64 1],?_,by rw[HQ.out];rfl,HW2.out.e⟩;simp[results,results13,go_sem,d1,d2]
 |true=>
  cases r with
  |ok u=>
   have HQ:=G (show gO p=([],0)from HL.out);go_enter_defers func13,ntmps13;go_wp2_with (first|(go_at_call 35;refine(HVD.out _ HW0.out.e).mono ?_;rintro e w1 ⟨rfl,hE⟩;have HW1:=G (HW0.out.ex hE);have c0:=HW1.out.b0.cell;have HK:=G (v6 w1 (.slice A n c) (.slice B m d) (HB.out.ext HW1.out.e));have HE4:=G ((((O w1 (.map #[] 0)).alloc' (.map #[] 0)).alloc' (.map #[] 0)).alloc' (.cells #[.slice A n c, .slice B m d, .map (some w1.heap.size), .map (some (w1.heap.size+1)), .map (some (w1.heap.size+1+1)), .map none] 108));have hl1:=HW1.out.lt;have HW4:=G (HW1.out.ex HE4.out);clear hE)|(go_at_call 37;refine(HAL.out ⟨w1.heap.size+1+1+1,w1.heap.size,w1.heap.size+1,w1.heap.size+1+1, .slice A n c, .slice B m d⟩ ⟨by simp only;omega,by simp only;omega,by simp only;omega,by simp only;omega,by simp only;omega,by simp only;omega⟩ (by simp only;omega) _ (HV.out.keep (.of_ext HW4.out.e) (fun b hb _=>hb)) (HF.out.keep (.of_ext HW4.out.e) (fun b hb _=>hb)) (fun b hb hu=>by simp only[CB.U,CB.S]at hu;omega) HK.out).mono ?_;unfold Ct bQ;rintro e w5 ⟨hM,rfl⟩;have HW5:=G (HW4.out.mv hM (fun k hk hu=>by simp only[CB.U,CB.S]at hu;omega));have c1:=HW5.out.b1.cell;have z1:=HW5.out.b1.frozen;have c2:=HW5.out.b2.cell;have z2:=HW5.out.b2.frozen;clear hM));have HW7:=G (HW5.out.put (.string ⟨#[]⟩) (.int .i64 0));refine leaves_cons (f:=36) (args:= #[.pointer (some ⟨w.heap.size+1,0,none⟩), .pointer (some ⟨w.heap.size+1+1,0,none⟩)]) (by simp) (by simp[go_sem]) ?_;refine(pi _ _ _).mono ?_;rintro e u' w8 ⟨rfl,rfl,rfl⟩;have d1:=HW7.out.b1.cell;have d2:=HW7.out.b2.cell;refine(show Leaves _ _ _ _ [] .returning _ from ?_);refine⟨.tuple #[.string ⟨#[]⟩, .int .i64 0],?_,by rw[HQ.out];rfl,HW7.out.e⟩;simp[results,results13,go_sem,d1,d2]
  |error q=>
   obtain⟨nm,en⟩:=q;have HQ:=G (show gO p=(nm,en)from HL.out);go_enter_defers func13,ntmps13;go_wp2_with (first|(go_at_call 35;refine(HVD.out _ HW0.out.e).mono ?_;rintro e w1 ⟨rfl,hE⟩;have HW1:=G (HW0.out.ex hE);have c0:=HW1.out.b0.cell;have HK:=G (v6 w1 (.slice A n c) (.slice B m d) (HB.out.ext HW1.out.e));have HE4:=G ((((O w1 (.map #[] 0)).alloc' (.map #[] 0)).alloc' (.map #[] 0)).alloc' (.cells #[.slice A n c, .slice B m d, .map (some w1.heap.size), .map (some (w1.heap.size+1)), .map (some (w1.heap.size+1+1)), .map none] 108));have hl1:=HW1.out.lt;have HW4:=G (HW1.out.ex HE4.out);clear hE)|(go_at_call 37;refine(HAL.out ⟨w1.heap.size+1+1+1,w1.heap.size,w1.heap.size+1,w1.heap.size+1+1, .slice A n c, .slice B m d⟩ ⟨by simp only;omega,by simp only;omega,by simp only;omega,by simp only;omega,by simp only;omega,by simp only;omega⟩ (by simp only;omega) _ (HV.out.keep (.of_ext HW4.out.e) (fun b hb _=>hb)) (HF.out.keep (.of_ext HW4.out.e) (fun b hb _=>hb)) (fun b hb hu=>by simp only[CB.U,CB.S]at hu;omega) HK.out).mono ?_;unfold Ct bQ bh;rintro e w5 ⟨hM,rfl⟩;have HW5:=G (HW4.out.mv hM (fun k hk hu=>by simp only[CB.U,CB.S]at hu;omega));clear hM));refine leaves_cons (f:=36) (args:= #[.pointer (some ⟨w.heap.size+1,0,none⟩), .pointer (some ⟨w.heap.size+1+1,0,none⟩)]) (by simp) (by simp[go_sem]) ?_;refine(og w w5 _ _ _ _ nm en _ HW5.out).mono ?_;rintro e u' w8 ⟨rfl,rfl,H8⟩;have d1:=H8.b1.cell;have d2:=H8.b2.cell;refine(show Leaves _ _ _ _ [] .returning _ from ?_);refine⟨.tuple #[.string (ag nm), .int .i64 en],?_,by rw[HQ.out],H8.e⟩;simp[results,results13,go_sem,d1,d2]
end
section
open Go.RowKit
theorem zv:eD 1=[49]:=by rw[eD];rfl
end
section
open Go.RowKit
def Ae:List UInt8:=[102,117,110,99,32,109,97,105,110,40,41,32,123,32,114,101,116,117,114,110,32,51,48,48,59,32,125]
def Ac:List UInt8:=[118,97,114,32,97,91,51,93,59,32,102,117,110,99,32,109,97,105,110,40,41,32,123,32,97,91,51,93,32,61,32,49,59,32,125]
def j':Pg:=k8 (.mk 1 [] [] [] 300 [])
def js:Pg:=⟨[⟨[97],3⟩],[⟨bL,[],[.mk 3 [97] [.mk 1 [] [] [] 3 [], .mk 1 [] [] [] 1 []] [] []]⟩]⟩
def Ad:List db:=[⟨2,[102,117,110,99],0,0⟩,⟨1,[109,97,105,110],0,5⟩,⟨5,[40],0,9⟩,⟨5,[41],0,10⟩,⟨5,[123],0,12⟩,⟨2,[114,101,116,117,114,110],0,14⟩,⟨3,[],300,21⟩,⟨5,[59],0,24⟩,⟨5,[125],0,26⟩]
def Aa:List db:=[⟨2,[118,97,114],0,0⟩,⟨1,[97],0,4⟩,⟨5,[91],0,5⟩,⟨3,[],3,6⟩,⟨5,[93],0,7⟩,⟨5,[59],0,8⟩,⟨2,[102,117,110,99],0,10⟩,⟨1,[109,97,105,110],0,15⟩,⟨5,[40],0,19⟩,⟨5,[41],0,20⟩,⟨5,[123],0,22⟩,⟨1,[97],0,24⟩,⟨5,[91],0,25⟩,⟨3,[],3,26⟩,⟨5,[93],0,27⟩,⟨5,[61],0,29⟩,⟨3,[],1,31⟩,⟨5,[59],0,32⟩,⟨5,[125],0,34⟩]
theorem uj:jq Ae=(Ad,0,0):=by decide+kernel
theorem uh:jq Ac=(Aa,0,0):=by decide+kernel
theorem vW:eD 3=[51]:=by rw[eD];rfl
theorem wO:(gh js).length<=4000:=by
 have h1:aY (.mk 1 [] [] [] 1 [])=[49]:=by
  show eD 1=[49];exact zv
 have h3:aY (.mk 1 [] [] [] 3 [])=[51]:=by
  show eD 3=[51];exact vW
 simp[gh,js,gE,fR,a6,aZ,iT,cU,co,dr,bT,bL,rH,dA,iz,nx,vW,h1,h3]
theorem uk:fa j'=true:=wV (by decide) (by decide) (by decide)
theorem ui:fa js=true:=by
 unfold fa;rw[decide_eq_true wO];decide+kernel
theorem yn:(gO j').2=0:=by
 have:fT j'= .ok ():=wW (fun g lo _=>by simp[io,gX,CR.then]) (by simp[ci]);unfold gO;rw[uk,this];rfl
theorem ym:(gO js).2=0:=by
 have:fT js= .ok ():=by kernel_rfl
 unfold gO;rw[ui,this];rfl
theorem xY:jS j'<=6000000:=by decide+kernel
theorem xX:jS js<=6000000:=by decide+kernel
end
section
open Go.RowKit
theorem CE:ng prog 123 9 59 (.agg #[.string ⟨#[]⟩, .slice none 0 0, .slice none 0 0]):=⟨underlying123,underlying9,fun w=>by kernel_rfl⟩
theorem CF:ng prog 125 9 40 (.slice none 0 0):=⟨underlying125,underlying9,fun w=>by kernel_rfl⟩
theorem Sl.keepP {w w':World} {P:Nat->Prop} {A:Option Addr} {c:Nat} {l:List UInt8} (h:Sl w A c l) (hk:cP P w w') (hP: ∀b o,A=some ⟨b,o,none⟩->l≠ []->P b):Sl w' A c l:=by
 refine⟨h.le,h.max,h.nil,?_⟩;by_cases hl:l=[]
 ·exact .inl hl
 rcases h.rd with h0|⟨b,o,ha,hb,hc⟩
 ·exact .inl h0
 ·exact .inr ⟨b,o,ha,aF hb hk.size,fun i hi=>(hk.cell _ (hP b o ha hl) hb).trans (hc i hi)⟩
structure MX where
 g:Nat
 bf:Nat
 bi:Nat
 ba:Nat
 lo:Nat
 hi:Nat
 rb:List UInt8->Nat
 fv:List UInt8->Value
 rv:Value
 al:List UInt8->Nat
 mv:Nat
def vO (k:Int):Ending:= .panicked [{v:= .iface 129 (.agg #[.int .i64 k]),recovered:=false}]
def wu (X:MX) (o:Oc) (w:World):Prop:=
 ∃v0 v1 v2 v3 v4 v5 A c,aO w X.g 127 #[v0,v1,v2,v3,v4,v5, .int .i64 0, .int .i64 o.call, .int .i64 o.a0, .int .i64 o.a1, .int .i64 o.a2, .slice A o.data.length c, .int .i64 (o.used:Int)]/\Sl w A c o.data/\ ∀b i,A=some ⟨b,i,none⟩->o.data≠ []->X.hi<=b
section
variable {X:MX} {C:Cx} {σ σ':Ms} {w w':World}
theorem ks (w:World) (g i:Nat) (v:Value):w.grownBy (w.setCell ⟨g,i,none⟩ v) (some g):=⟨rfl,rfl,rfl,by simp[World.setCell],fun k _ hk=>Below.heap_setCell w _ _ k (fun e=>hk (by rw[e]))⟩
end
end
section
open Go.RowKit
end
section
open Go.RowKit
end
section
end
section
open Go.RowKit
section
variable {X:MX} {C:Cx} {σ σ':Ms} {w w':World} {fb lb:Nat} {l:Lo} {ret:Option Int}
theorem b8.xt {v:Value} {xs:List Ex} {P:Nat->Prop} (h:b8 w P v xs) (hM:au w w'):b8 w' P v xs:=h.keep (.of_ext hM) fun b hb _=>hb
theorem cM.xt {v:Value} {xs:List St} {P:Nat->Prop} (h:cM w P v xs) (hM:au w w'):cM w' P v xs:=h.keep (.of_ext hM) fun b hb _=>hb
end
structure YC (w:World) (b o:Nat) (k:Int) (op nm tx:List UInt8) (v:Int) (B:Option Addr) (n d:Nat):Prop where
 c0:w.cell? ⟨b,o,none⟩=some (.int .i64 k)
 c1:w.cell? ⟨b,o+1,none⟩=some (.string (ag op))
 c2:w.cell? ⟨b,o+2,none⟩=some (.string (ag nm))
 c3:w.cell? ⟨b,o+3,none⟩=some (.string (ag tx))
 c4:w.cell? ⟨b,o+4,none⟩=some (.int .i64 v)
 c5:w.cell? ⟨b,o+5,none⟩=some (.slice B n d)
theorem YC.kp {w w':World} {P:Nat->Prop} {b o:Nat} {k:Int} {op nm tx:List UInt8} {v:Int} {B:Option Addr} {n d:Nat} (h:YC w b o k op nm tx v B n d) (hk:cP P w w') (hP:P b) (hb:b<w.heap.size):YC w' b o k op nm tx v B n d:=
 ⟨(hk.cell _ hP hb).trans h.c0,(hk.cell _ hP hb).trans h.c1,(hk.cell _ hP hb).trans h.c2,(hk.cell _ hP hb).trans h.c3,(hk.cell _ hP hb).trans h.c4,(hk.cell _ hP hb).trans h.c5⟩
theorem b8.yc {w:World} {P:Nat->Prop} {A:Option Addr} {n c:Nat} {xs:List Ex} (h:b8 w P (.slice A n c) xs) (i:Nat) (hi:i<xs.length):
  ∃b o B d,A=some ⟨b,o,none⟩/\b<w.heap.size/\P b/\YC w b (o+i*6) xs[i].k xs[i].op xs[i].nm xs[i].tx xs[i].v B xs[i].args.length d/\b8 w P (.slice B xs[i].args.length d) xs[i].args:=by
 obtain⟨b,o,a,rfl,hb,hP,h0,h1,h2,h3,h4,h5,hR⟩:=h.at_ i hi;obtain⟨B,d,rfl,_⟩:=hR.form;exact⟨b,o,B,d,rfl,hb,hP,⟨h0,h1,h2,h3,h4,h5⟩,hR⟩
end
section
open Go.RowKit
end
section
end
section
open Go.RowKit
end
section
end
section
open Go.RowKit
end
section
open Go.RowKit
end
section
open Go.RowKit
end
section
open Go.RowKit
end
end Go.Proofs.YtddomeddabfinaaGreatDoor
