/-
  Parts of the proof: TyCk PaC TyAv TyN TyO TyDf TyX.
-/
import Derived.Test.YtddomeddabfinaaGreatDoorTa00
import Derived.Test.YtddomeddabfinaaGreatDoorTa32
import Derived.Test.YtddomeddabfinaaGreatDoorTa34
import Derived.Test.YtddomeddabfinaaGreatDoorTa26
import Derived.Test.YtddomeddabfinaaGreatDoorTa25
import Derived.Test.YtddomeddabfinaaGreatDoorTa29
import Derived.Test.YtddomeddabfinaaGreatDoorTa24
set_option maxRecDepth 100000
set_option maxHeartbeats 8000000
set_option linter.unusedVariables false
set_option linter.unusedSimpArgs false
set_option linter.unusedSectionVars false
namespace Go.Proofs.YtddomeddabfinaaGreatDoor
open Go.Proofs.Tryz
section
open Go.RowKit
def gQ (p:Pg):Er:=if gD p=true then(match fE p with| .ok _=>([],0)| .error e=>e)else([],1)
structure CW (w:World) (sv sf x y:Value) (W:World):Prop where
 e:au w W
 b0:aQ W w.heap.size 34 #[sv,sf]
 b1:aQ W (w.heap.size+1) 9 #[x]
 b2:aQ W (w.heap.size+1+1) 28 #[y]
theorem Bp (w:World) (sv sf x y:Value):CW w sv sf x y (((w.alloc (.cells #[sv,sf] 34)).alloc (.cells #[x] 9)).alloc (.cells #[y] 28)):=by
 refine⟨((I w _).alloc' _).alloc' _,((am w _ _).alloc _).alloc _,?_,?_⟩
 ·have:=(am (w.alloc (.cells #[sv,sf] 34)) 9 #[x]).alloc (.cells #[y] 28);rwa [World.size_alloc]at this
 ·have:=am ((w.alloc (.cells #[sv,sf] 34)).alloc (.cells #[x] 9)) 28 #[y];rwa [World.size_alloc,World.size_alloc]at this
section
variable {w W W':World} {sv sf x y:Value}
theorem CW.ex (h:CW w sv sf x y W) (hE:au W W'):CW w sv sf x y W':=⟨h.e.trans hE,h.b0.ext hE,h.b1.ext hE,h.b2.ext hE⟩
theorem CW.lt (h:CW w sv sf x y W):w.heap.size+1+1<W.heap.size:=h.b2.lt
theorem CW.put (h:CW w sv sf x y W) (p q:Value):CW w sv sf p q ((W.setCell ⟨w.heap.size+1,0,none⟩ p).setCell ⟨w.heap.size+1+1,0,none⟩ q):=by
 refine⟨(h.e.set (by show w.heap.size<=w.heap.size+1;omega) _).set (by show w.heap.size<=w.heap.size+1+1;omega) _,(h.b0.far (p:=⟨w.heap.size+1,0,none⟩) (by show _≠w.heap.size+1;omega) _).far (p:=⟨w.heap.size+1+1,0,none⟩) (by show _≠w.heap.size+1+1;omega) _,?_,?_⟩
 ·have:=(h.b1.set 0 p).far (p:=⟨w.heap.size+1+1,0,none⟩) (by show _≠w.heap.size+1+1;omega) q;simpa using this
 ·have:=(h.b2.far (p:=⟨w.heap.size+1,0,none⟩) (by show _≠w.heap.size+1;omega) p).set 0 q;simpa using this
theorem CW.mv {S:Nat->Prop} (h:CW w sv sf x y W) (hM:Mv S W W') (hS: ∀k,k<=w.heap.size+1+1-> ¬S k):CW w sv sf x y W':=by
 have hl:=h.lt;have hE:au w W':=⟨hM.os.trans h.e.os,hM.tape.trans h.e.tape,hM.output.trans h.e.output,aT h.e.size hM.size,fun k hk=>(hM.block k (by omega) (hS k (by omega))).trans (h.e.obj hk)⟩
 exact⟨hE,hM.blk h.b0 (hS _ (by omega)),hM.blk h.b1 (hS _ (by omega)),hM.blk h.b2 (hS _ (by omega))⟩
theorem CW.drew (h:CW w sv sf x y W):CW w sv sf x y W.drew:=⟨h.e.drew,h.b0.drew,h.b1.drew,h.b2.drew⟩
end
theorem qr (p0 p1:Value) (w:World):
  CallsD prog 36 #[p0,p1] .returning w fun e u' w'=>e= .returned (.tuple #[])/\u'= .returning/\w'=w:=by
 refine callsD_of_wpS func36 rfl fun c₀ cs hu=> ?_;apply wpS_seq;apply wpS_region;simp[wpOpsS,go_sem,recoverD,hu,ntmps36,Exit.thenS];apply wpS_seq;apply wpS_region;simp[wpOpsS,go_sem,Exit.thenS];refine wpS_cond (t:=false) (by simp[Act.eval]) ?_;simp only[aK,if_false];refine wpS_of_wp (wp_skip ?_)
 cases c₀;simp_all[bodyPostS,results,results36]
theorem pE (W0 w:World) (sv sf x y:Value) (nm:List UInt8) (n:Int) (older:List PanicEntry) (H:CW W0 sv sf x y w):
  CallsD prog 36 #[.pointer (some ⟨W0.heap.size+1,0,none⟩), .pointer (some ⟨W0.heap.size+1+1,0,none⟩)] (.panicking ({v:= .iface 102 (.agg #[.string (ah nm), .int .i64 n]),recovered:=false}::older)) w fun e u' w'=>
   e= .returned (.tuple #[])/\u'= .panicking ({v:= .iface 102 (.agg #[.string (ah nm), .int .i64 n]),recovered:=true}::older)/\CW W0 sv sf (.string (ah nm)) (.int .i64 n) w':=by
 have hx:=I w (.cells #[.string (ah nm), .int .i64 n] 102);have HBw:=G (am w 102 #[.string (ah nm), .int .i64 n]);have HC:=G (H.ex hx);have hlt:=H.lt;clear hx H;refine callsD_of_wpS func36 rfl fun c₀ cs hu=> ?_;apply wpS_seq;apply wpS_region;simp[wpOpsS,go_sem,recoverD,hu,ntmps36,Exit.thenS];have hT: ∀v a b:Value,#[a,b]++((Array.replicate 18 undef).setIfInBounds 3 v).setIfInBounds 0 v= #[a,b,v,undef,undef,v,undef,undef,undef,undef,undef,undef,undef,undef,undef,undef,undef,undef,undef,undef]:=by
  intro v a b;apply jk;simp[gG]
 rw[hT];clear hT;apply wpS_seq;apply wpS_region;simp[wpOpsS,go_sem,Exit.thenS];refine wpS_cond (t:=true) (by simp[Act.eval]) ?_;simp only[if_true];refine wpS_of_wp ?_;have hta: ∀(v:Value) (xT:TypeId) (w:World),(Instr.typeAssert (.iface 102 v) xT 102 true).run prog w= .ok (.tuple #[v, .bool true]) w:=fun v xT w=>by simp[Instr.typeAssert,run_underlying underlying102]
 go_wp2_with fail;clear hta;have hb:=HBw.out.cell;have c1:=HC.out.b1.cell;have c2:=HC.out.b2.cell;have z1:=HC.out.b1.frozen;have z2:=HC.out.b2.frozen;have m1:w.heap.size≠W0.heap.size+1:=by omega
 have m2:w.heap.size≠W0.heap.size+1+1:=by omega
 have m3:W0.heap.size+1≠W0.heap.size+1+1:=by omega
 generalize w.alloc (.cells #[.string (ah nm), .int .i64 n] 102)=w5 at*;go_region;have hfin:=HC.out.put (.string (ah nm)) (.int .i64 n);refine⟨rfl,_,rfl, .tuple #[],?_,rfl,rfl,hfin.drew⟩;simp[results,results36]
theorem xU (w:World) (sv sf:Value) (ht:BT w):CK ⟨w.heap.size+1+1+1,w.heap.size,w.heap.size+1,w.heap.size+1+1,sv,sf⟩ i' (.map none) eG ((((w.alloc (.map #[] 0)).alloc (.map #[] 0)).alloc (.map #[] 0)).alloc (.cells #[sv,sf, .map (some w.heap.size), .map (some (w.heap.size+1)), .map (some (w.heap.size+1+1)), .map none] 108)):=by
 have e1:=I w (.map #[] 0);have e2:=I (w.alloc (.map #[] 0)) (.map #[] 0);have e3:=I ((w.alloc (.map #[] 0)).alloc (.map #[] 0)) (.map #[] 0);have e4:=I (((w.alloc (.map #[] 0)).alloc (.map #[] 0)).alloc (.map #[] 0)) (.cells #[sv,sf, .map (some w.heap.size), .map (some (w.heap.size+1)), .map (some (w.heap.size+1+1)), .map none] 108);have m1:=(((gk w).ext e2).ext e3).ext e4;have m2:=((gk (w.alloc (.map #[] 0))).ext e3).ext e4;have m3:=(gk ((w.alloc (.map #[] 0)).alloc (.map #[] 0))).ext e4;have b:=am (((w.alloc (.map #[] 0)).alloc (.map #[] 0)).alloc (.map #[] 0)) 108 #[sv,sf, .map (some w.heap.size), .map (some (w.heap.size+1)), .map (some (w.heap.size+1+1)), .map none];simp only[World.size_alloc]at m1 m2 m3 b;exact⟨b,m1.congr fun s=>rfl,m2.congr fun s=>rfl,m3.congr fun s=>rfl, .inl ⟨rfl,rfl⟩,(((ht.ext e1).ext e2).ext e3).ext e4⟩
theorem o5 (p:Pg) (hw:ld p<=6000000) (P:Nat->Prop) (w:World) (A B:Option Addr) (n c m d:Nat) (hV:li w P (.slice A n c) p.vs) (hF:lW w P (.slice B m d) p.fs) (hT:dg w w.heap.size) (hB:BT w):
  Calls prog 13 #[.agg #[.slice A n c, .slice B m d]] w fun e w'=>e= .returned (.tuple #[.string (ah (gQ p).1), .int .i64 (gQ p).2])/\au w w':=by
 have hmm:= @run_makeMap prog;have hmf: ∀(fn:Fn) (first cap:Array Value) (w:World),(Instr.makeFunc fn first cap).run prog w= .ok (.func fn first cap) w:=fun _ _ _ _=>rfl;have HW0:=G (Bp w (.slice A n c) (.slice B m d) (.string ⟨#[]⟩) (.int .i64 0));have HV:=G (hV.keep (Q:=fun b=>b<w.heap.size) ⟨ag _,fun _ _ _=>rfl⟩ (fun b h1 h2=>h2));have HF:=G (hF.keep (Q:=fun b=>b<w.heap.size) ⟨ag _,fun _ _ _=>rfl⟩ (fun b h1 h2=>h2));have HVD:=G (fun W (h:au w W)=>sU p hw (fun b=>b<w.heap.size) W A B n c m d (HV.out.keep (.of_ext h) (fun b hb _=>hb)) (HF.out.keep (.of_ext h) (fun b hb _=>hb)) (fT hT h));have HB:=G hB;have HL:=G (show gQ p=if gD p=true then(match fE p with| .ok _=>([],0)| .error e=>e)else([],1)from rfl);have HAL:=G (fun(X:CB) (hX:X.Ok) hg W h1 h2 h3 h4=>v8 p hw X hX hg (fun b=>b<w.heap.size) W h1 h2 h3 h4);have hg0:0<w.heap.size:=by obtain⟨t,fr,h⟩:=hB;exact(Array.getElem?_eq_some_iff.1 h).1
 clear hV hF hT hB;generalize gD p=ok at*;generalize fE p=r at*
 cases ok with
 |false=>
  have HQ:=G (show gQ p=([],1)from HL.out);go_enter_defers func13,ntmps13;go_wp2_with (go_at_call 35;refine(HVD.out _ HW0.out.e).mono ?_;rintro e w1 ⟨rfl,hE⟩;have HW1:=G (HW0.out.ex hE);have c1:=HW1.out.b1.cell;have z1:=HW1.out.b1.frozen;have c2:=HW1.out.b2.cell;have z2:=HW1.out.b2.frozen;clear hE);have HW2:=G (HW1.out.put (.string ⟨#[]⟩) (.int .i64 1));have d1:=HW2.out.b1.cell;have d2:=HW2.out.b2.cell;refine⟨.tuple #[.string ⟨#[]⟩, .int .i64 1],?_,by rw[HQ.out];rfl,HW2.out.e⟩;simp[results,results13,go_sem,d1,d2]
 |true=>
  cases r with
  |ok u=>
   have HQ:=G (show gQ p=([],0)from HL.out);go_enter_defers func13,ntmps13;go_wp2_with (first|(go_at_call 35;refine(HVD.out _ HW0.out.e).mono ?_;rintro e w1 ⟨rfl,hE⟩;have HW1:=G (HW0.out.ex hE);have c0:=HW1.out.b0.cell;have HK:=G (xU w1 (.slice A n c) (.slice B m d) (HB.out.ext HW1.out.e));have HE4:=G ((((I w1 (.map #[] 0)).alloc' (.map #[] 0)).alloc' (.map #[] 0)).alloc' (.cells #[.slice A n c, .slice B m d, .map (some w1.heap.size), .map (some (w1.heap.size+1)), .map (some (w1.heap.size+1+1)), .map none] 108));have hl1:=HW1.out.lt;have HW4:=G (HW1.out.ex HE4.out);clear hE)|(go_at_call 37;refine(HAL.out ⟨w1.heap.size+1+1+1,w1.heap.size,w1.heap.size+1,w1.heap.size+1+1, .slice A n c, .slice B m d⟩ ⟨by simp only;omega,by simp only;omega,by simp only;omega,by simp only;omega,by simp only;omega,by simp only;omega⟩ (by simp only;omega) _ (HV.out.keep (.of_ext HW4.out.e) (fun b hb _=>hb)) (HF.out.keep (.of_ext HW4.out.e) (fun b hb _=>hb)) (fun b hb hu=>by simp only[CB.U,CB.S]at hu;omega) HK.out).mono ?_;unfold Dy bU;rintro e w5 ⟨hM,rfl⟩;have HW5:=G (HW4.out.mv hM (fun k hk hu=>by simp only[CB.U,CB.S]at hu;omega));have c1:=HW5.out.b1.cell;have z1:=HW5.out.b1.frozen;have c2:=HW5.out.b2.cell;have z2:=HW5.out.b2.frozen;clear hM));have HW7:=G (HW5.out.put (.string ⟨#[]⟩) (.int .i64 0));refine leaves_cons (f:=36) (args:= #[.pointer (some ⟨w.heap.size+1,0,none⟩), .pointer (some ⟨w.heap.size+1+1,0,none⟩)]) (by simp) (by simp[go_sem]) ?_;refine(qr _ _ _).mono ?_;rintro e u' w8 ⟨rfl,rfl,rfl⟩;have d1:=HW7.out.b1.cell;have d2:=HW7.out.b2.cell;refine(show Leaves _ _ _ _ [] .returning _ from ?_);refine⟨.tuple #[.string ⟨#[]⟩, .int .i64 0],?_,by rw[HQ.out];rfl,HW7.out.e⟩;simp[results,results13,go_sem,d1,d2]
  |error q=>
   obtain⟨nm,en⟩:=q;have HQ:=G (show gQ p=(nm,en)from HL.out);go_enter_defers func13,ntmps13;go_wp2_with (first|(go_at_call 35;refine(HVD.out _ HW0.out.e).mono ?_;rintro e w1 ⟨rfl,hE⟩;have HW1:=G (HW0.out.ex hE);have c0:=HW1.out.b0.cell;have HK:=G (xU w1 (.slice A n c) (.slice B m d) (HB.out.ext HW1.out.e));have HE4:=G ((((I w1 (.map #[] 0)).alloc' (.map #[] 0)).alloc' (.map #[] 0)).alloc' (.cells #[.slice A n c, .slice B m d, .map (some w1.heap.size), .map (some (w1.heap.size+1)), .map (some (w1.heap.size+1+1)), .map none] 108));have hl1:=HW1.out.lt;have HW4:=G (HW1.out.ex HE4.out);clear hE)|(go_at_call 37;refine(HAL.out ⟨w1.heap.size+1+1+1,w1.heap.size,w1.heap.size+1,w1.heap.size+1+1, .slice A n c, .slice B m d⟩ ⟨by simp only;omega,by simp only;omega,by simp only;omega,by simp only;omega,by simp only;omega,by simp only;omega⟩ (by simp only;omega) _ (HV.out.keep (.of_ext HW4.out.e) (fun b hb _=>hb)) (HF.out.keep (.of_ext HW4.out.e) (fun b hb _=>hb)) (fun b hb hu=>by simp only[CB.U,CB.S]at hu;omega) HK.out).mono ?_;unfold Dy bU a7;rintro e w5 ⟨hM,rfl⟩;have HW5:=G (HW4.out.mv hM (fun k hk hu=>by simp only[CB.U,CB.S]at hu;omega));clear hM));refine leaves_cons (f:=36) (args:= #[.pointer (some ⟨w.heap.size+1,0,none⟩), .pointer (some ⟨w.heap.size+1+1,0,none⟩)]) (by simp) (by simp[go_sem]) ?_;refine(pE w w5 _ _ _ _ nm en _ HW5.out).mono ?_;rintro e u' w8 ⟨rfl,rfl,H8⟩;have d1:=H8.b1.cell;have d2:=H8.b2.cell;refine(show Leaves _ _ _ _ [] .returning _ from ?_);refine⟨.tuple #[.string (ah nm), .int .i64 en],?_,by rw[HQ.out],H8.e⟩;simp[results,results13,go_sem,d1,d2]
end
section
open Go.RowKit
theorem Bo:gh 1=[49]:=by rw[gh];rfl
end
section
open Go.RowKit
def AL:List UInt8:=[102,117,110,99,32,109,97,105,110,40,41,32,123,32,114,101,116,117,114,110,32,51,48,48,59,32,125]
def AJ:List UInt8:=[118,97,114,32,97,91,51,93,59,32,102,117,110,99,32,109,97,105,110,40,41,32,123,32,97,91,51,93,32,61,32,49,59,32,125]
def kv:Pg:=i7 (.mk 1 [] [] [] 300 [])
def jO:Pg:=⟨[⟨[97],3⟩],[⟨bw,[],[.mk 3 [97] [.mk 1 [] [] [] 3 [], .mk 1 [] [] [] 1 []] [] []]⟩]⟩
def yM:List bK:=[⟨2,[102,117,110,99],0,0⟩,⟨1,[109,97,105,110],0,5⟩,⟨5,[40],0,9⟩,⟨5,[41],0,10⟩,⟨5,[123],0,12⟩,⟨2,[114,101,116,117,114,110],0,14⟩,⟨3,[],300,21⟩,⟨5,[59],0,24⟩,⟨5,[125],0,26⟩]
def yJ:List bK:=[⟨2,[118,97,114],0,0⟩,⟨1,[97],0,4⟩,⟨5,[91],0,5⟩,⟨3,[],3,6⟩,⟨5,[93],0,7⟩,⟨5,[59],0,8⟩,⟨2,[102,117,110,99],0,10⟩,⟨1,[109,97,105,110],0,15⟩,⟨5,[40],0,19⟩,⟨5,[41],0,20⟩,⟨5,[123],0,22⟩,⟨1,[97],0,24⟩,⟨5,[91],0,25⟩,⟨3,[],3,26⟩,⟨5,[93],0,27⟩,⟨5,[61],0,29⟩,⟨3,[],1,31⟩,⟨5,[59],0,32⟩,⟨5,[125],0,34⟩]
theorem wd:gc AL=(yM,0,0):=by decide+kernel
theorem v_:gc AJ=(yJ,0,0):=by decide+kernel
theorem wg:cR 44 kT yM= .ok (kv,[]):=by kernel_rfl
theorem wa:cR 84 kT yJ= .ok (jO,[]):=by kernel_rfl
theorem xM:gh 3=[51]:=by rw[gh];rfl
theorem yG:(iZ jO).length<=4000:=by
 have h1:cd (.mk 1 [] [] [] 1 [])=[49]:=by
  show gh 1=[49];exact Bo
 have h3:cd (.mk 1 [] [] [] 3 [])=[51]:=by
  show gh 3=[51];exact xM
 simp[iZ,jO,j4,j3,bF,dB,iJ,eE,eM,iW,dI,bw,qv,ki,rT,BX,xM,h1,h3]
theorem wj:gD kv=true:=yX (by decide) (by decide) (by decide)
theorem wc:gD jO=true:=by
 unfold gD;rw[decide_eq_true yG];decide+kernel
theorem yL:lD AL=(kv,0,0):=by
 unfold lD;rw[wd];simp only[if_true];unfold uG;rw[show cR (4*yM.length+8) kT yM= .ok (kv,[])from wg];simp only[wj,if_true]
theorem yI:lD AJ=(jO,0,0):=by
 unfold lD;rw[v_];simp only[if_true];unfold uG;rw[show cR (4*yJ.length+8) kT yJ= .ok (jO,[])from wa];simp only[wc,if_true]
theorem AK:(gQ kv).2=0:=by
 have:fE kv= .ok ():=yY (fun g lo _=>by simp[kK,lR,CR.then]) (by simp[cN]);unfold gQ;rw[wj,this];rfl
theorem AI:(gQ jO).2=0:=by
 have:fE jO= .ok ():=by kernel_rfl
 unfold gQ;rw[wc,this];rfl
theorem yK:kx kv [] 100=⟨1,0,44,0,0,[],0⟩:=by
 show wH (i7 (.mk 1 [] [] [] 300 [])) [] (199+1) (99+1)=_;rw[yV 199 99,p9 _ 198 _ _ 300 (by decide) (by decide)];rfl
theorem yH:(kx jO [] 100).kind=2:=by kernel_rfl
theorem BW:ld kv<=6000000:=by decide+kernel
theorem BV:ld jO<=6000000:=by decide+kernel
end
section
open Go.RowKit
theorem DA:oo prog 123 9 59 (.agg #[.string ⟨#[]⟩, .slice none 0 0, .slice none 0 0]):=⟨underlying123,underlying9,fun w=>by kernel_rfl⟩
theorem Bf:oo prog 124 9 21 (.int .i32 0):=⟨underlying124,underlying9,fun w=>by kernel_rfl⟩
theorem DB:oo prog 125 9 40 (.slice none 0 0):=⟨underlying125,underlying9,fun w=>by kernel_rfl⟩
def yl (w:World) (P:Nat->Prop) (v:Value) (R:Rs):Prop:=
 ∃A c,v= .slice A R.length c/\(R=[]\/R.length<=c/\c<=maxLen/\ ∃b o,A=some ⟨b,o,none⟩/\P b/\b<w.heap.size/\ ∃(da:Nat->Option Addr) (dc:Nat->Nat),∀i,(h:i<R.length)->w.cell? ⟨b,o+i*2,none⟩=some (.int .i64 R[i].1)/\w.cell? ⟨b,o+i*2+1,none⟩=some (.slice (da i) R[i].2.length (dc i))/\Sl w (da i) (dc i) R[i].2/\ ∀b2 o2,da i=some ⟨b2,o2,none⟩->R[i].2≠ []->P b2)
theorem Sl.keepP {w w':World} {P:Nat->Prop} {A:Option Addr} {c:Nat} {l:List UInt8} (h:Sl w A c l) (hk:cw P w w') (hP: ∀b o,A=some ⟨b,o,none⟩->l≠ []->P b):Sl w' A c l:=by
 refine⟨h.le,h.max,h.nil,?_⟩;by_cases hl:l=[]
 ·exact .inl hl
 rcases h.rd with h0|⟨b,o,ha,hb,hc⟩
 ·exact .inl h0
 ·exact .inr ⟨b,o,ha,az hb hk.size,fun i hi=>(hk.cell _ (hP b o ha hl) hb).trans (hc i hi)⟩
theorem yl.keep {w w':World} {P:Nat->Prop} {v:Value} {R:Rs} (h:yl w P v R) (hk:cw P w w'):yl w' P v R:=by
 obtain⟨A,c,rfl,h⟩:=h;refine⟨A,c,rfl,h.imp id fun⟨h1,h2,b,o,ha,hP,hb,da,dc,hc⟩=>⟨h1,h2,b,o,ha,hP,az hb hk.size,da,dc,fun i hi=> ?_⟩⟩;obtain⟨q0,q1,q2,q3⟩:=hc i hi;exact⟨(hk.cell _ hP hb).trans q0,(hk.cell _ hP hb).trans q1,q2.keepP hk q3,q3⟩
structure MX where
 g:Nat
 bf:Nat
 bi:Nat
 ba:Nat
 lo:Nat
 hi:Nat
 rb:List UInt8->Nat
 fv:List UInt8->Value
 rv:Value
 al:List UInt8->Nat
 mv:Nat
abbrev MX.S (X:MX) (k:Nat):Prop:=(X.lo<=k/\k≠X.mv)/\k<X.hi
abbrev MX.P (X:MX) (k:Nat):Prop:=k<X.lo
abbrev MX.p (X:MX):Value:= .pointer (some ⟨X.g,0,none⟩)
structure MX.Ok (X:MX):Prop where
 fi:X.bf≠X.bi
 fa:X.bf≠X.ba
 ia:X.bi≠X.ba
 g:X.S X.g
 f:X.S X.bf
 i:X.S X.bi
 a:X.S X.ba
def od (X:MX) (σ:Ms) (s:List UInt8):Value:=if σ.arrs s=[]then .slice none 0 0 else .slice (some ⟨X.rb s,0,none⟩) (σ.arrs s).length (σ.arrs s).length
def yw (l:List UInt8):Array Value:=(jS l).toArray
structure MA (X:MX) (C:Cx) (σ:Ms) (w:World):Prop where
 ok:X.Ok
 blk: ∃lf:Int,lf.toNat=σ.left/\ -9223372036854775808<=lf/\lf<=9223372036854775807/\aQ w X.g 127 #[.map (some X.bf), .map (some X.bi), .map (some X.ba),X.rv, .int .i64 lf, .int .i64 (σ.stk:Int), .int .i64 0, .int .i64 0, .int .i64 0, .int .i64 0, .int .i64 0, .slice none 0 0, .int .i64 (σ.used:Int)]
 f: ∃L,bJ w X.bf L/\ ∀s,(L s).getD (.agg #[.string ⟨#[]⟩, .slice none 0 0, .slice none 0 0])=X.fv s
 fr: ∀s,∃pv bv,X.fv s= .agg #[.string (ah (C.fn s).nm),pv,bv]/\lk w X.P pv (C.fn s).ps/\cK w X.P bv (C.fn s).body
 i: ∃L,bJ w X.bi L/\ ∀s,(L s).getD (.int .i32 0)= .int .i32 (σ.ints s)
 a: ∃L,bJ w X.ba L/\ ∀s,(L s).getD (.slice none 0 0)=od X σ s
 row: ∀s,σ.arrs s≠ []->aQ w (X.rb s) 5 (yw (σ.arrs s))/\X.S (X.rb s)/\X.rb s≠X.g/\(σ.arrs s).length<=1073741824
 inj: ∀s t,σ.arrs s≠ []->σ.arrs t≠ []->X.rb s=X.rb t->s=t
 r:yl w X.P X.rv C.R
 used:σ.used<=C.R.length
 stk:σ.stk<=1024
 rng:jT σ
 t:BT w
 t0:X.P 0
 top:X.hi<=w.heap.size
 len: ∀s,(σ.arrs s).length=X.al s
section
variable {X:MX} {C:Cx} {σ:Ms} {w w':World}
theorem MA.mv {S:Nat->Prop} (h:MA X C σ w) (hM:Mv S w w') (hS: ∀k,k<X.hi-> ¬S k):MA X C σ w':=by
 have ok:=h.ok;have ht:=h.top;have hk:cw X.P w w':=hM.keepP fun k hk _=>hS k (by have:=ok.g;simp only[MX.S,MX.P]at*;omega);obtain⟨lf,q1,q2,q3,hb⟩:=h.blk;obtain⟨L1,f1,f2⟩:=h.f;obtain⟨L2,i1,i2⟩:=h.i;obtain⟨L3,a1,a2⟩:=h.a;refine⟨ok,⟨lf,q1,q2,q3,hM.blk hb (hS _ ok.g.2)⟩,⟨L1,hM.map f1 (hS _ ok.f.2),f2⟩,fun s=> ?_,⟨L2,hM.map i1 (hS _ ok.i.2),i2⟩,⟨L3,hM.map a1 (hS _ ok.a.2),a2⟩,fun s hs=> ?_,h.inj,h.r.keep hk,h.used,h.stk,h.rng,?_,h.t0,aT h.top hM.size,h.len⟩
 ·obtain⟨pv,bv,e,p1,p2⟩:=h.fr s;exact⟨pv,bv,e,p1.keep hk (fun b hb _=>hb),p2.keep hk (fun b hb _=>hb)⟩
 ·obtain⟨r1,r2,r3⟩:=h.row s hs;exact⟨hM.blk r1 (hS _ r2.2),r2,r3⟩
 ·obtain⟨t,fr,ht⟩:=h.t;refine⟨t,fr,(hM.block _ (Array.getElem?_eq_some_iff.1 ht).1 (hS _ ?_)).trans ht⟩;have:=ok.g;have:=h.t0;simp only[MX.S,MX.P]at*;omega
theorem MA.ext (h:MA X C σ w) (he:au w w'):MA X C σ w':=h.mv (S:=fun _=>False) (.of_ext he) (fun _ _ h=>h)
end
def iq (k:Int):Ending:= .panicked [{v:= .iface 129 (.agg #[.int .i64 k]),recovered:=false}]
def gy (X:MX) (o:Oc) (w:World):Prop:=
 ∃v0 v1 v2 v3 v4 v5 A c,aQ w X.g 127 #[v0,v1,v2,v3,v4,v5, .int .i64 0, .int .i64 o.call, .int .i64 o.a0, .int .i64 o.a1, .int .i64 o.a2, .slice A o.data.length c, .int .i64 (o.used:Int)]/\Sl w A c o.data/\ ∀b i,A=some ⟨b,i,none⟩->o.data≠ []->X.hi<=b
theorem MA.halt {X:MX} {C:Cx} {σ:Ms} {w:World} (h:MA X C σ w) (k:Int):gy X ⟨k,0,0,0,0,[],σ.used⟩ w:=by
 obtain⟨lf,_,_,_,hb⟩:=h.blk;exact⟨_,_,_,_,_,_,none,0,hb,kf w,fun b i e=>by cases e⟩
def AD (X:MX) (C:Cx) (σ:Ms) (w:World) (e:Ending) (w':World):Prop:=w.grownBy w' (some X.g)/\if σ.left=0 then e=iq 3/\gy X σ.long w' else e= .returned (.tuple #[])/\MA X C σ.step w'
abbrev dH (X:MX) (lf:Int) (σ:Ms):Array Value:= #[.map (some X.bf), .map (some X.bi), .map (some X.ba),X.rv, .int .i64 lf, .int .i64 (σ.stk:Int), .int .i64 0, .int .i64 0, .int .i64 0, .int .i64 0, .int .i64 0, .slice none 0 0, .int .i64 (σ.used:Int)]
section
variable {X:MX} {C:Cx} {σ σ':Ms} {w w':World}
theorem MA.ne (h:MA X C σ w):X.bf≠X.g/\X.bi≠X.g/\X.ba≠X.g:=by
 obtain⟨lf,_,_,_,hb⟩:=h.blk;obtain⟨_,f1,_⟩:=h.f;obtain⟨_,i1,_⟩:=h.i;obtain⟨_,a1,_⟩:=h.a;exact⟨fun e=>fY hb (e▸f1),fun e=>fY hb (e▸i1),fun e=>fY hb (e▸a1)⟩
theorem MA.reg (h:MA X C σ w) (hM:w.grownBy w' (some X.g)) (lf:Int) (q1:lf.toNat=σ'.left) (q2: -9223372036854775808<=lf) (q3:lf<=9223372036854775807) (hb:aQ w' X.g 127 (dH X lf σ')) (ei:σ'.ints=σ.ints) (ea:σ'.arrs=σ.arrs) (hu:σ'.used<=C.R.length) (hs:σ'.stk<=1024):MA X C σ' w':=by
 have ok:=h.ok;obtain⟨n1,n2,n3⟩:=h.ne;obtain⟨L1,f1,f2⟩:=h.f;obtain⟨L2,i1,i2⟩:=h.i;obtain⟨L3,a1,a2⟩:=h.a;have hk:cw X.P w w':= .of_grown hM (fun b hb e=>by injection e with e;subst e;have:=ok.g;simp only[MX.S,MX.P]at*;omega);refine⟨ok,⟨lf,q1,q2,q3,hb⟩,⟨L1,f1.grown hM (md n1),f2⟩,fun s=> ?_,⟨L2,i1.grown hM (md n2),fun s=>by rw[ei];exact i2 s⟩,⟨L3,a1.grown hM (md n3),fun s=>by rw[a2 s];unfold od;rw[ea]⟩,fun s hs=> ?_,fun s t=>by rw[ea];exact h.inj s t,h.r.keep hk,hu,hs,fun x=>by rw[ei];exact h.rng x,h.t.grown hM (fun e=> ?_),h.t0,aT h.top hM.size,fun s=>by rw[ea];exact h.len s⟩
 ·obtain⟨pv,bv,e,p1,p2⟩:=h.fr s;exact⟨pv,bv,e,p1.keep hk (fun b hb _=>hb),p2.keep hk (fun b hb _=>hb)⟩
 ·rw[ea]at hs⊢;obtain⟨r1,r2,r3,r4⟩:=h.row s hs;exact⟨r1.grown hM (md r3),r2,r3,r4⟩
 ·have:=ok.g;have:=h.t0;rw[<-e]at this;simp only[MX.S,MX.P]at*;omega
theorem b7 (w:World) (g i:Nat) (v:Value):w.grownBy (w.setCell ⟨g,i,none⟩ v) (some g):=⟨rfl,rfl,rfl,by simp[World.setCell],fun k _ hk=>Below.heap_setCell w _ _ k (fun e=>hk (by rw[e]))⟩
theorem MA.dec (h:MA X C σ w) {lf:Int} (hb:aQ w X.g 127 (dH X lf σ)) (hl:lf.toNat=σ.left) (h0: ¬lf<=0) (q3:lf<=9223372036854775807):MA X C σ.step (w.setCell ⟨X.g,4,none⟩ (.int .i64 (lf-1))):=by
 refine h.reg (b7 w X.g 4 _) (lf-1) (by show _=σ.left-1;omega) (by omega) (by omega) ?_ rfl rfl h.used h.stk;have e:(dH X lf σ).setIfInBounds 4 (.int .i64 (lf-1))=dH X (lf-1) σ.step:=rfl;rw[<-e];exact hb.set 4 _
end
theorem oQ (X:MX) (C:Cx) (σ:Ms) (w:World) (h:MA X C σ w):Calls prog 162 #[X.p] w (AD X C σ w):=by
 obtain⟨lf,q1,q2,q3,hb⟩:=h.blk;have HH:=G (h.halt 3);have hc:=hb.cell;have hf:=hb.frozen;unfold AD;by_cases h0:lf<=0
 ·have hl:σ.left=0:=by omega
  simp only[if_pos hl];clear h hb;obtain⟨g,bf,bi,ba,lo,hi,rb,fv,rv,al,mvb⟩:=X;simp only[MX.p]at*;go_enter func162,ntmps162;go_wp2_with fail;exact⟨rfl,World.grownBy.refl _ _,rfl,HH.out⟩
 ·have hl: ¬σ.left=0:=by omega
  simp only[if_neg hl];have hw1:IntKind.i64.wrap (lf-1)=lf-1:=by simp[IntKind.wrap,IntKind.signed,IntKind.bits];omega
  have HD:=G (h.dec hb q1 h0 q3);have HG:=G (b7 w X.g 4 (.int .i64 (lf-1)));clear h hb HH;obtain⟨g,bf,bi,ba,lo,hi,rb,fv,rv,al,mvb⟩:=X;simp only[MX.p]at*;go_enter func162,ntmps162;go_wp2_with fail;exact bodyPost_end (results_none rfl _ _ _) rfl ⟨HG.out,rfl,HD.out⟩
theorem l7 (b:Bool) (w:World):Calls prog 188 #[.bool b] w fun e w'=>e= .returned (.int .i32 (l5 b))/\au w w':=by
 cases b;all_goals
  go_enter func188,ntmps188;go_wp2_with fail;go_ret;exact⟨rfl,aO _⟩
theorem vY {a b:Int} (ha:eL a):eL (a.tmod b):=by
 unfold eL at ha⊢;have h1:(a.tmod b).natAbs<=a.natAbs:=by rw[Int.natAbs_tmod];exact Nat.mod_le _ _
 by_cases h:0<=a
 ·have:=Int.tmod_nonneg b h;omega
 ·have h2:0<=(-a).tmod b:=Int.tmod_nonneg b (by omega);rw[Int.neg_tmod]at h2;omega
def sL:ER Int->Ending
 | .ok (v,_)=> .returned (.int .i32 v)
 | .error _=>iq 2
theorem n_ (op:List UInt8) (a b:Int) (ha:eL a) (hb:eL b) (σ:Ms) (w:World):Calls prog 189 #[.string (ah op), .int .i32 a, .int .i32 b] w fun e w'=>e=sL (ig op a b σ)/\au w w':=by
 unfold eL at ha hb;have HW:=G (fun c W=>l7 c W);have hwr: ∀z:Int,IntKind.i32.wrap z=kM z:=fun _=>rfl;have HX:=G (aO w);by_cases h1:op=[43]
 ·subst h1;go_enter func189,ntmps189;go_wp2_with fail;go_ret;exact⟨rfl,HX.out⟩
 by_cases h2:op=[45]
 ·subst h2;go_enter func189,ntmps189;go_wp2_with fail;go_ret;exact⟨rfl,HX.out⟩
 by_cases h3:op=[42]
 ·subst h3;go_enter func189,ntmps189;go_wp2_with fail;go_ret;exact⟨rfl,HX.out⟩
 by_cases h4:op=[47]
 ·subst h4;by_cases hb0:b=0
  ·subst hb0;go_enter func189,ntmps189;go_wp2_with fail;exact⟨rfl,rfl,HX.out⟩
  ·have hb1:=beq_eq_false_iff_ne.2 hb0;have HE:=G (show ig [47] a b σ= .ok (kM (a.tdiv b),σ) by simp[ig,hb0]);go_enter func189,ntmps189;go_wp2_with fail;go_ret;exact⟨by rw[HE.out];rfl,HX.out⟩
 by_cases h5:op=[37]
 ·subst h5;by_cases hb0:b=0
  ·subst hb0;go_enter func189,ntmps189;go_wp2_with fail;exact⟨rfl,rfl,HX.out⟩
  ·have hb1:=beq_eq_false_iff_ne.2 hb0;have HE:=G (show ig [37] a b σ= .ok (kM (a.tmod b),σ) by simp[ig,hb0]);go_enter func189,ntmps189;go_wp2_with fail;go_ret;exact⟨by rw[HE.out,pz (vY ha)];rfl,HX.out⟩
 by_cases h6:op=[61,61]
 ·subst h6;go_enter func189,ntmps189;go_wp2_with (go_at_call 188;refine(HW.out _ _).mono ?_;rintro e w1 ⟨rfl,hE⟩;have HX1:=G (HX.out.trans hE);clear hE);go_ret;exact⟨rfl,HX1.out⟩
 by_cases h7:op=[33,61]
 ·subst h7;go_enter func189,ntmps189;go_wp2_with (go_at_call 188;refine(HW.out _ _).mono ?_;rintro e w1 ⟨rfl,hE⟩;have HX1:=G (HX.out.trans hE);clear hE);go_ret;exact⟨rfl,HX1.out⟩
 by_cases h8:op=[60]
 ·subst h8;go_enter func189,ntmps189;go_wp2_with (go_at_call 188;refine(HW.out _ _).mono ?_;rintro e w1 ⟨rfl,hE⟩;have HX1:=G (HX.out.trans hE);clear hE);go_ret;exact⟨rfl,HX1.out⟩
 by_cases h9:op=[60,61]
 ·subst h9;go_enter func189,ntmps189;go_wp2_with (go_at_call 188;refine(HW.out _ _).mono ?_;rintro e w1 ⟨rfl,hE⟩;have HX1:=G (HX.out.trans hE);clear hE);go_ret;exact⟨rfl,HX1.out⟩
 by_cases h10:op=[62]
 ·subst h10;go_enter func189,ntmps189;go_wp2_with (go_at_call 188;refine(HW.out _ _).mono ?_;rintro e w1 ⟨rfl,hE⟩;have HX1:=G (HX.out.trans hE);clear hE);go_ret;exact⟨rfl,HX1.out⟩
 have n1:=beq_eq_false_iff_ne.2 h1;have n2:=beq_eq_false_iff_ne.2 h2;have n3:=beq_eq_false_iff_ne.2 h3;have n4:=beq_eq_false_iff_ne.2 h4;have n5:=beq_eq_false_iff_ne.2 h5;have n6:=beq_eq_false_iff_ne.2 h6;have n7:=beq_eq_false_iff_ne.2 h7;have n8:=beq_eq_false_iff_ne.2 h8;have n9:=beq_eq_false_iff_ne.2 h9;have n10:=beq_eq_false_iff_ne.2 h10
 have HE:=G (show ig op a b σ= .ok (l5 (decide (b<=a)),σ) by
  unfold ig
  rw[if_neg h1,if_neg h2,if_neg h3,if_neg (by simp[h4,h5]),if_neg h6,if_neg h7,if_neg h8,if_neg h9,if_neg h10])
 go_enter func189,ntmps189;go_wp2_with (go_at_call 188;refine(HW.out _ _).mono ?_;rintro e w1 ⟨rfl,hE⟩;have HX1:=G (HX.out.trans hE);clear hE);go_ret;exact⟨by rw[HE.out];rfl,HX1.out⟩
end
section
open Go.RowKit
section
variable {X:MX} {C:Cx} {σ σ':Ms} {w w':World}
theorem MA.lookA (h:MA X C σ w) {s:List UInt8} (hs:s.length<=1073741824):(Instr.lookup 125 (.map (some X.ba)) (.string (ah s)) false).run prog w= .ok (od X σ s) w:=by
 obtain⟨L,a1,a2⟩:=h.a;rw[(a1.look DB (by unfold maxLen;omega)).1,a2]
theorem MA.lookI (h:MA X C σ w) {s:List UInt8} (hs:s.length<=1073741824):(Instr.lookup 124 (.map (some X.bi)) (.string (ah s)) false).run prog w= .ok (.int .i32 (σ.ints s)) w:=by
 obtain⟨L,a1,a2⟩:=h.i;rw[(a1.look Bf (by unfold maxLen;omega)).1,a2]
theorem MA.mcell (h:MA X C σ w): ∃lf:Int,lf.toNat=σ.left/\aQ w X.g 127 (dH X lf σ):=by
 obtain⟨lf,q1,_,_,hb⟩:=h.blk;exact⟨lf,q1,hb⟩
end
def gv (X:MX) (σ:Ms) (nm:List UInt8) (i:Int):Ending:=if 0<=i/\i<(σ.arrs nm).length then .returned (.pointer (some ⟨X.rb nm,i.toNat,none⟩))else iq 2
theorem iv (X:MX) (C:Cx) (σ:Ms) (w:World) (h:MA X C σ w) (nm:List UInt8) (hn:nm.length<=1073741824) (i:Int) (hi:eL i):
  Calls prog 166 #[X.p, .string (ah nm), .int .i32 i] w fun e w'=>e=gv X σ nm i/\au w w':=by
 have fl:=h.lookA hn;obtain⟨lf,_,hb⟩:=h.mcell;have hc:=hb.cell;have HX:=G (aO w);unfold eL at hi;have hrow:=h.row nm;clear h hb;by_cases h0:i<0
 ·have HE:=G (show gv X σ nm i=iq 2 by unfold gv;rw[if_neg (by omega)]);have h0d:decide (i<0)=true:=decide_eq_true h0;obtain⟨g,bf,bi,ba,lo,hi,rb,fv,rv,al,mvb⟩:=X;simp only[MX.p,dH]at*;generalize od _ σ nm=av at*;go_enter func166,ntmps166;go_wp2_with fail;exact⟨rfl,by rw[HE.out];rfl,HX.out⟩
 ·obtain⟨k,rfl⟩:=dh (show 0<=i by omega);have h0d:decide ((k:Int)<0)=false:=decide_eq_false h0;have hcv:IntKind.i64.wrap (k:Int)=k:=by simp[IntKind.wrap,IntKind.signed,IntKind.bits];omega
  by_cases he:σ.arrs nm=[]
  ·have HE:=G (show gv X σ nm k=iq 2 by unfold gv;rw[he,if_neg (by simp)]);have e1:od X σ nm= .slice none 0 0:=by unfold od;rw[if_pos he]
   rw[e1]at fl;obtain⟨g,bf,bi,ba,lo,hi,rb,fv,rv,al,mvb⟩:=X;simp only[MX.p,dH]at*;clear hrow;go_enter func166,ntmps166;go_wp2_with fail;exact⟨rfl,by rw[HE.out];rfl,HX.out⟩
  ·have e1:od X σ nm= .slice (some ⟨X.rb nm,0,none⟩) (σ.arrs nm).length (σ.arrs nm).length:=by unfold od;rw[if_neg he]
   obtain⟨_,_,_,hlen⟩:=hrow he;rw[e1]at fl;obtain⟨n,hnn⟩: ∃n,(σ.arrs nm).length=n:=⟨_,rfl⟩
   rw[hnn]at fl hlen;by_cases hk:k<n
   ·have hk':(k:Int)<n:=by omega
    have HE:=G (show gv X σ nm k= .returned (.pointer (some ⟨X.rb nm,k,none⟩)) by unfold gv;rw[hnn,if_pos (by omega)];rfl);obtain⟨g,bf,bi,ba,lo,hi,rb,fv,rv,al,mvb⟩:=X;simp only[MX.p,dH]at*;clear hnn e1 hrow;go_enter func166,ntmps166;go_wp2_with fail;go_ret;exact⟨by rw[HE.out];simp,HX.out⟩
   ·have hk': ¬(k:Int)<n:=by omega
    have HE:=G (show gv X σ nm k=iq 2 by unfold gv;rw[hnn,if_neg (by omega)]);obtain⟨g,bf,bi,ba,lo,hi,rb,fv,rv,al,mvb⟩:=X;simp only[MX.p,dH]at*;clear hnn e1 hrow;go_enter func166,ntmps166;go_wp2_with fail;exact⟨rfl,by rw[HE.out];rfl,HX.out⟩
def xo (l:Lo):KF:=fun s=>(l s).map (.int .i32)
abbrev gE (lb:Nat) (ret:Option Int):Array Value:= #[.map (some lb), .bool ret.isSome, .int .i32 (ret.getD 0)]
structure FR (fb lb:Nat) (l:Lo) (ret:Option Int) (w:World):Prop where
 blk:aQ w fb 182 (gE lb ret)
 m:bJ w lb (xo l)
 rng:pj l
section
variable {X:MX} {C:Cx} {σ σ':Ms} {w w':World} {fb lb:Nat} {l:Lo} {ret:Option Int}
theorem FR.ne (h:FR fb lb l ret w):lb≠fb:=fun e=>fY h.blk (e▸h.m)
theorem FR.mv {S:Nat->Prop} (h:FR fb lb l ret w) (hM:Mv S w w') (h1: ¬S fb) (h2: ¬S lb):FR fb lb l ret w':=⟨hM.blk h.blk h1,hM.map h.m h2,h.rng⟩
theorem FR.ext (h:FR fb lb l ret w) (he:au w w'):FR fb lb l ret w':=⟨h.blk.ext he,h.m.ext he,h.rng⟩
theorem FR.look (h:FR fb lb l ret w) {s:List UInt8} (hs:s.length<=1073741824):(Instr.lookup 124 (.map (some lb)) (.string (ah s)) true).run prog w= .ok (.tuple #[.int .i32 ((l s).getD 0), .bool (l s).isSome]) w:=by
 rw[(h.m.look Bf (by unfold maxLen;omega)).2];simp only[xo]
 cases l s<;>rfl
theorem FR.upd {nm:List UInt8} {v:Int} (h:FR fb lb l ret w) (hv:eL v) (hm:bJ w' lb ((xo l).upd nm (.int .i32 v))) (hg:w.grownBy w' (some lb)):FR fb lb (l.upd nm v) ret w':=by
 refine⟨h.blk.grown hg (md (fd h.ne)),hm.congr fun s=> ?_,h.rng.upd hv⟩;unfold KF.upd xo Lo.upd;by_cases e:s=nm
 ·rw[if_pos e,if_pos e];rfl
 ·rw[if_neg e,if_neg e]
theorem MA.setI {nm:List UInt8} {v:Int} {L:KF} (h:MA X C σ w) (hv:eL v) (h2: ∀s,(L s).getD (.int .i32 0)= .int .i32 (σ.ints s)) (hm:bJ w' X.bi (L.upd nm (.int .i32 v))) (hg:w.grownBy w' (some X.bi)):MA X C (σ.setI nm v) w':=by
 have ok:=h.ok;obtain⟨lf,q1,q2,q3,hb⟩:=h.blk;obtain⟨L1,f1,f2⟩:=h.f;obtain⟨L3,a1,a2⟩:=h.a;have hk:cw X.P w w':= .of_grown hg (fun b hb e=>by injection e with e;subst e;have:=ok.i;have:=ok.g;simp only[MX.S,MX.P]at*;omega);refine⟨ok,⟨lf,q1,q2,q3,hb.grown hg (md (fd h.ne.2.1))⟩,⟨L1,f1.grown hg (md ok.fi),f2⟩,fun s=> ?_,⟨_,hm,fun s=> ?_⟩,⟨L3,a1.grown hg (md (fd ok.ia)),a2⟩,fun s hs=> ?_,h.inj,h.r.keep hk,h.used,h.stk,h.rng.setI hv,h.t.grown hg (fun e=> ?_),h.t0,aT h.top hg.size,h.len⟩
 ·obtain⟨pv,bv,e,p1,p2⟩:=h.fr s;exact⟨pv,bv,e,p1.keep hk (fun b hb _=>hb),p2.keep hk (fun b hb _=>hb)⟩
 ·show((L.upd nm (.int .i32 v)) s).getD _= .int .i32 (if s=nm then v else σ.ints s);unfold KF.upd;split
  ·rfl
  ·exact h2 s
 ·obtain⟨r1,r2,r3,r4⟩:=h.row s hs;refine⟨r1.grown hg (md fun e=> ?_),r2,r3,r4⟩;obtain⟨_,i1,_⟩:=h.i;exact fY r1 (e▸i1)
 ·have:=ok.i;have:=h.t0;rw[<-e]at this;simp only[MX.S,MX.P]at*;omega
end
def CH (X:MX) (C:Cx) (σ:Ms) (fb lb:Nat) (l:Lo) (ret:Option Int) (nm:List UInt8) (v:Int) (w:World) (e:Ending) (w':World):Prop:=
 e= .returned (.tuple #[])/\Mv (fun k=>k=lb\/k=X.bi) w w'/\if(l nm).isSome=true then MA X C σ w'/\FR fb lb (l.upd nm v) ret w' else MA X C (σ.setI nm v) w'/\FR fb lb l ret w'
theorem ob (X:MX) (C:Cx) (σ:Ms) (w:World) (h:MA X C σ w) (fb lb:Nat) (l:Lo) (ret:Option Int) (hF:FR fb lb l ret w) (hfl:X.hi<=fb/\X.hi<=lb) (nm:List UInt8) (hn:nm.length<=1073741824) (v:Int) (hv:eL v):
  Calls prog 165 #[X.p, .pointer (some ⟨fb,0,none⟩), .string (ah nm), .int .i32 v] w (CH X C σ fb lb l ret nm v w):=by
 have fl:=hF.look hn;have fc:=hF.blk.cell;obtain⟨lf,_,hb⟩:=h.mcell;have hc:=hb.cell;have ok:=h.ok;unfold CH
 cases hl:(l nm).isSome with
 |true=>
  simp only[if_true];rw[hl]at fl;have HF:=G hF;have HMv:=G (fun W (hg:w.grownBy W (some lb))=>h.mv (.of_grown (S:=fun k=>k=lb) hg (fun k e=>by injection e with e;exact e.symm)) (fun k hk e=>by have:=hfl.2;omega));clear h hF hb ok;obtain⟨g,bf,bi,ba,lo,hi,rb,fv,rv,al,mvb⟩:=X;simp only[MX.p,dH,gE]at*;generalize (l nm).getD 0=q at*;go_enter func165,ntmps165;go_wp2_with (at_mapUpdate;refine cv Bf rfl _ _ _ rfl HF.out.m rfl (by unfold maxLen;omega) rfl _ rfl ?_;intro w8 hm8 hg8;have HG:=G hg8;have HF8:=G (HF.out.upd hv hm8 hg8);clear hm8 hg8);exact bodyPost_ret (results_none rfl _ _ _) rfl ⟨rfl, .of_grown HG.out (fun k e=>by injection e with e;exact .inl e.symm),HMv.out _ HG.out,HF8.out⟩
 |false=>
  simp only[aK,if_false];rw[hl]at fl;obtain⟨L,i1,i2⟩:=h.i;have HI:=G i1;have HS:=G (fun W (hm:bJ W X.bi (L.upd nm (.int .i32 v))) (hg:w.grownBy W (some X.bi))=>h.setI hv i2 hm hg);have HF:=G (fun W (hg:w.grownBy W (some X.bi))=>hF.mv (.of_grown (S:=fun k=>k=X.bi) hg (fun k e=>by injection e with e;exact e.symm)) (fun e=>by have:=ok.i;have:=hfl.1;simp only[MX.S]at*;omega) (fun e=>by have:=ok.i;have:=hfl.2;simp only[MX.S]at*;omega));clear h hF hb ok i1 i2;obtain⟨g,bf,bi,ba,lo,hi,rb,fv,rv,al,mvb⟩:=X;simp only[MX.p,dH,gE]at*;generalize (l nm).getD 0=q at*;go_enter func165,ntmps165;go_wp2_with (at_mapUpdate;refine cv Bf rfl _ _ _ rfl HI.out rfl (by unfold maxLen;omega) rfl _ rfl ?_;intro w8 hm8 hg8;have HG:=G hg8;have HS8:=G (HS.out _ hm8 hg8);clear hm8 hg8);exact bodyPost_end (results_none rfl _ _ _) rfl ⟨rfl, .of_grown HG.out (fun k e=>by injection e with e;exact .inr e.symm),HS8.out,HF.out _ HG.out⟩
end
section
open Go.RowKit
structure DQ (w:World) (pb fb lb:Nat) (P:Nat->Prop) (l:Lo) (ret:Option Int) (cs:Array Value) (bd el:List St) (A2 A3:Option Addr) (c2 c3:Nat) (W:World):Prop where
 gr:w.grownBy W (some lb)
 fr:FR fb lb l ret W
 bk:aQ W pb 72 cs
 rb:cK W P (.slice A2 bd.length c2) bd
 rl:cK W P (.slice A3 el.length c3) el
 hP: ∀b,P b->b≠lb
 ne:lb≠pb
section
variable {w W W':World} {pb fb lb:Nat} {P:Nat->Prop} {l l':Lo} {ret:Option Int} {cs:Array Value} {bd el:List St} {A2 A3:Option Addr} {c2 c3:Nat}
theorem DQ.ext (h:DQ w pb fb lb P l ret cs bd el A2 A3 c2 c3 W) (he:au W W'):DQ w pb fb lb P l ret cs bd el A2 A3 c2 c3 W':=
 ⟨h.gr.trans (he.grownBy _),h.fr.ext he,h.bk.ext he,h.rb.keep (.of_ext he) (fun b hb _=>hb),h.rl.keep (.of_ext he) (fun b hb _=>hb),h.hP,h.ne⟩
theorem DQ.grown (h:DQ w pb fb lb P l ret cs bd el A2 A3 c2 c3 W) (hg:W.grownBy W' (some lb)) (hc:FR fb lb l' ret W'):DQ w pb fb lb P l' ret cs bd el A2 A3 c2 c3 W':=by
 have hk:cw P W W':= .of_grown hg (fun b hb e=>h.hP b hb (by injection e));exact⟨h.gr.trans hg,hc,h.bk.grown hg (fun e=>h.ne (by injection e with e;exact e.symm)),h.rb.keep hk (fun b hb _=>hb),h.rl.keep hk (fun b hb _=>hb),h.hP,h.ne⟩
end
theorem uW {l:Lo} {xs:List St} {j:Nat} (h:j<xs.length):f5 l (xs.drop j)=f5 (sH l xs[j]) (xs.drop (j+1)):=by
 rw[aw h,f5]
def Dw (fb lb:Nat) (l:Lo) (ret:Option Int) (w:World) (e:Ending) (w':World):Prop:=e= .returned (.tuple #[])/\w.grownBy w' (some lb)/\FR fb lb l ret w'
def Cu (xs:List St):Prop:= ∀(g fb lb:Nat) (l:Lo) (ret:Option Int) (P:Nat->Prop) (w:World) (A:Option Addr) (n c:Nat),FR fb lb l ret w->cK w P (.slice A n c) xs->(∀b,P b->b≠lb)->
 Calls prog 85 #[.pointer (some ⟨g,0,none⟩), .pointer (some ⟨fb,0,none⟩), .slice A n c] w (Dw fb lb (f5 l xs) ret w)
theorem q_ (xs:List St) (hl:xs.length<=1073741824) (hnmx: ∀s∈xs,s.nm.length<=1073741824) (hIH: ∀s∈xs,Cu s.body/\Cu s.els):Cu xs:=by
 intro g fb lb l ret P w A n c hK hR hP;obtain⟨A',c',hv,hf⟩:=hR.form;injection hv with hv1 hv2 hv3;subst hv1 hv2 hv3;have HR:=G hR;have HI:=G hIH;have HNM:=G hnmx;have HK0:=G hK;obtain⟨N,hN⟩: ∃N,xs.length=N:=⟨_,rfl⟩
 have HN:=G hN;rw[hN]at HR hl;obtain⟨Rv,hRv⟩: ∃R,f5 l xs=R:=⟨_,rfl⟩
 have HQ0:=G (show f5 l (xs.drop 0)=Rv from hRv);have HX0:=G (World.grownBy.refl w (some lb));clear hR hf hIH hK hnmx;rw[hN,hRv];clear hN hRv;go_enter func85,ntmps85;go_wp2_with fail
 go_loopw [10] (fun vi wr=> ∃(j:Nat) (lj:Lo),vi= .int .i64 (j:Int)/\j<=N/\Hid (f5 lj (xs.drop j)=Rv)/\Hid (w.grownBy wr (some lb))/\Hid (FR fb lb lj ret wr)) (fun vi _=>N-(intOf vi).toNat)
 case atStart=>exact⟨0,l,rfl,aF _,HQ0,HX0,HK0⟩
 case round=>
  obtain⟨j,lj,rfl,hj,HQR,HX,HKj⟩:=hrel;by_cases hlt:j<N
  ·have hlt':(j:Int)<N:=by omega
   have hjl:j<xs.length:=by have:=HN.out;omega
   obtain⟨b,o,e,bv,lv,rfl,hb,hPb,h0,h1,h2,h3,h4,hRe,hRb,hRl⟩:=HR.out.at_ j hjl;have hS:=uW (l:=lj) hjl;have hnm:=HNM.out _ (ap hjl);have hII:=HI.out _ (ap hjl);obtain⟨y,hy⟩: ∃y,xs[j]=y:=⟨_,rfl⟩
   rw[hy]at h0 h1 hRe hRb hRl hS hnm hII;clear hy;obtain⟨k,nm,ex,bd,el⟩:=y;simp only[St.k,St.nm,St.ex,St.body,St.els]at h0 h1 hRe hRb hRl hnm hII;have hKP:cw P w wr:= .of_grown HX.out (fun b hb e=>hP b hb (by injection e));have e0:=(hKP.cell _ hPb hb).trans h0;have e1:=(hKP.cell _ hPb hb).trans h1;have e2:=(hKP.cell _ hPb hb).trans h2;have e3:=(hKP.cell _ hPb hb).trans h3;have e4:=(hKP.cell _ hPb hb).trans h4;obtain⟨A1,c1,rfl,_⟩:=hRe.form;obtain⟨A2,c2,rfl,_⟩:=hRb.form;obtain⟨A3,c3,rfl,_⟩:=hRl.form;have hAl:=I wr (.cells #[.int .i64 k, .string (ah nm), .slice A1 ex.length c1, .slice A2 bd.length c2, .slice A3 el.length c3] 72)
   have HQ:=G (show DQ w wr.heap.size fb lb P lj ret #[.int .i64 k, .string (ah nm), .slice A1 ex.length c1, .slice A2 bd.length c2, .slice A3 el.length c3] bd el A2 A3 c2 c3 (wr.alloc (.cells #[.int .i64 k, .string (ah nm), .slice A1 ex.length c1, .slice A2 bd.length c2, .slice A3 el.length c3] 72))from
    ⟨HX.out.trans (hAl.grownBy _),HKj.out.ext hAl,am wr _ _,(hRb.keep hKP (Q:=P) (fun b hb _=>hb)).keep (.of_ext hAl) (fun b hb _=>hb),(hRl.keep hKP (Q:=P) (fun b hb _=>hb)).keep (.of_ext hAl) (fun b hb _=>hb),hP,lm HKj.out.m.lt⟩)
   have HB1:=G hII.1;have HL1:=G hII.2;clear h0 h1 h2 h3 h4 hRe hRb hRl hII hAl hKP HR HI HNM;rw[sH]at hS;by_cases hk1:k=1
   ·subst hk1;rw[if_pos rfl]at hS;obtain⟨l1,hl1⟩: ∃x,lj.upd nm 0=x:=⟨_,rfl⟩
    rw[hl1]at hS;have HF:=G (show f5 (f5 (f5 l1 bd) el) (xs.drop (j+1))=Rv from hS.symm.trans HQR.out);go_wp2_with fail;refine ay 6 1 [] mixed (by kernel_rfl) trivial ?_;repeat (refine sx ?_ (fun w1 hU=> ?_) ?_;rotate_left;(focus have f0:=(HQ.out.ext hU.un).bk.cell;have fk:=(HQ.out.ext hU.un).fr.blk.cell;clear hU;go_simp<;>with_reducible rfl);simp only[aY,aX,aW,aV,aU])
    intro w7 hw7 _;simp only[aa,an];replace HQ:=G (HQ.out.ext hw7.un);clear hw7;have HT1:True:=trivial;go_wp2_with (first|(at_mapUpdate;refine cv Bf rfl _ _ _ rfl HQ.out.fr.m rfl (by unfold maxLen;omega) rfl _ rfl ?_;intro w8 hm8 hg8;replace HQ:=G (HQ.out.grown hg8 (HQ.out.fr.upd (by decide) hm8 hg8));rw[hl1]at HQ;clear hm8 hg8;have f0:=HQ.out.bk.cell)|(go_at_call 85;clear HT1;refine(HB1.out g fb lb l1 ret P _ A2 _ c2 HQ.out.fr HQ.out.rb hP).mono ?_;rintro e wx ⟨rfl,hg,hf⟩;replace HQ:=G (HQ.out.grown hg hf);clear hg hf;(try clear f0);have f0:=HQ.out.bk.cell)|(go_at_call 85;refine(HL1.out g fb lb (f5 l1 bd) ret P _ A3 _ c3 HQ.out.fr HQ.out.rl hP).mono ?_;rintro e wx ⟨rfl,hg,hf⟩;replace HQ:=G (HQ.out.grown hg hf);clear hg hf));go_roundw
    case rel=>exact⟨j+1,_,by go_num,by omega,HF,G HQ.out.gr,G HQ.out.fr⟩
    case measure=>simp[intOf];omega
   ·rw[if_neg hk1]at hS;have HF:=G (show f5 (f5 (f5 lj bd) el) (xs.drop (j+1))=Rv from hS.symm.trans HQR.out);have n1:=beq_eq_false_iff_ne.2 hk1;have HT1:True:=trivial;go_wp2_with (first|(go_at_call 85;clear HT1;refine(HB1.out g fb lb lj ret P _ A2 _ c2 HQ.out.fr HQ.out.rb hP).mono ?_;rintro e wx ⟨rfl,hg,hf⟩;replace HQ:=G (HQ.out.grown hg hf);clear hg hf;(try clear f0);have f0:=HQ.out.bk.cell)|(go_at_call 85;refine(HL1.out g fb lb (f5 lj bd) ret P _ A3 _ c3 HQ.out.fr HQ.out.rl hP).mono ?_;rintro e wx ⟨rfl,hg,hf⟩;replace HQ:=G (HQ.out.grown hg hf);clear hg hf));go_roundw
    case rel=>exact⟨j+1,_,by go_num,by omega,HF,G HQ.out.gr,G HQ.out.fr⟩
    case measure=>simp[intOf];omega
  ·have hlt': ¬(j:Int)<N:=by omega
   have HFn:=G (show lj=Rv by
    have:=HQR.out;rw[aD (by have:=HN.out;omega),f5]at this
    exact this)
   go_wp2_with fail;exact bodyPost_end (results_none rfl _ _ _) rfl ⟨rfl,HX.out,by rw[<-HFn.out];exact HKj.out⟩
theorem kX: ∀(m:Nat) (xs:List St),fj xs<=m->fj xs<=1073741824->Cu xs
 |0,xs,h,hw=>q_ xs (by have:=du xs;omega) (fun s hs=>by have:=bQ hs;have:=s.wt_eq;omega) (fun s hs=>by have:=bQ hs;have:=s.wt_eq;omega)
 |m+1,xs,h,hw=>q_ xs (by have:=du xs;omega) (fun s hs=>by have:=bQ hs;have:=s.wt_eq;omega)
   (fun s hs=>⟨kX m s.body (by have:=bQ hs;have:=s.wt_eq;omega) (by have:=bQ hs;have:=s.wt_eq;omega),kX m s.els (by have:=bQ hs;have:=s.wt_eq;omega) (by have:=bQ hs;have:=s.wt_eq;omega)⟩)
end
section
section
variable (R:Rs) (k:Nat)
variable {R k}
variable (hk:k<=R.length)
include hk
end
end
end Go.Proofs.YtddomeddabfinaaGreatDoor
