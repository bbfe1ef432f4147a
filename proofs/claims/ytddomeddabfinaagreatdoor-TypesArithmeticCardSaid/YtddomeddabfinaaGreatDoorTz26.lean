/-
  Parts of the proof: TyCk PaC TyAv TyN TyO TyDf TyX TyRn TyEx TySk TyRu TySv TyCl.
-/
import Derived.Test.YtddomeddabfinaaGreatDoorTz23
import Derived.Test.YtddomeddabfinaaGreatDoorTz25
import Derived.Test.YtddomeddabfinaaGreatDoorTz18
import Derived.Test.YtddomeddabfinaaGreatDoorTz17
import Derived.Test.YtddomeddabfinaaGreatDoorTz21
import Derived.Test.YtddomeddabfinaaGreatDoorTz16
import Derived.Test.YtddomeddabfinaaGreatDoorTz00
set_option maxRecDepth 100000
set_option maxHeartbeats 8000000
set_option linter.unusedVariables false
set_option linter.unusedSimpArgs false
set_option linter.defProp false
set_option linter.unusedSectionVars false
namespace Go.Proofs.YtddomeddabfinaaGreatDoor
open Go.Proofs.Tryz
section
open Go.RowKit
def gH (p:Pg):Er:=if gZ p=true then(match fR p with| .ok _=>([],0)| .error e=>e)else([],1)
structure CW (w:World) (sv sf x y:Value) (W:World):Prop where
 e:aq w W
 b0:aL W w.heap.size 34 #[sv,sf]
 b1:aL W (w.heap.size+1) 9 #[x]
 b2:aL W (w.heap.size+1+1) 28 #[y]
theorem Cg (w:World) (sv sf x y:Value):CW w sv sf x y (((w.alloc (.cells #[sv,sf] 34)).alloc (.cells #[x] 9)).alloc (.cells #[y] 28)):=by
 refine⟨((O w _).alloc' _).alloc' _,((an w _ _).alloc _).alloc _,?_,?_⟩
 ·have:=(an (w.alloc (.cells #[sv,sf] 34)) 9 #[x]).alloc (.cells #[y] 28);rwa [World.size_alloc]at this
 ·have:=an ((w.alloc (.cells #[sv,sf] 34)).alloc (.cells #[x] 9)) 28 #[y];rwa [World.size_alloc,World.size_alloc]at this
section
variable {w W W':World} {sv sf x y:Value}
theorem CW.ex (h:CW w sv sf x y W) (hE:aq W W'):CW w sv sf x y W':=⟨h.e.trans hE,h.b0.ext hE,h.b1.ext hE,h.b2.ext hE⟩
theorem CW.lt (h:CW w sv sf x y W):w.heap.size+1+1<W.heap.size:=h.b2.lt
theorem CW.put (h:CW w sv sf x y W) (p q:Value):CW w sv sf p q ((W.setCell ⟨w.heap.size+1,0,none⟩ p).setCell ⟨w.heap.size+1+1,0,none⟩ q):=by
 refine⟨(h.e.set (by show w.heap.size<=w.heap.size+1;omega) _).set (by show w.heap.size<=w.heap.size+1+1;omega) _,(h.b0.far (p:=⟨w.heap.size+1,0,none⟩) (by show _≠w.heap.size+1;omega) _).far (p:=⟨w.heap.size+1+1,0,none⟩) (by show _≠w.heap.size+1+1;omega) _,?_,?_⟩
 ·have:=(h.b1.set 0 p).far (p:=⟨w.heap.size+1+1,0,none⟩) (by show _≠w.heap.size+1+1;omega) q;simpa using this
 ·have:=(h.b2.far (p:=⟨w.heap.size+1,0,none⟩) (by show _≠w.heap.size+1;omega) p).set 0 q;simpa using this
theorem CW.mv {S:Nat->Prop} (h:CW w sv sf x y W) (hM:Mv S W W') (hS: ∀k,k<=w.heap.size+1+1-> ¬S k):CW w sv sf x y W':=by
 have hl:=h.lt;have hE:aq w W':=⟨hM.os.trans h.e.os,hM.tape.trans h.e.tape,hM.output.trans h.e.output,aZ h.e.size hM.size,fun k hk=>(hM.block k (by omega) (hS k (by omega))).trans (h.e.obj hk)⟩
 exact⟨hE,hM.blk h.b0 (hS _ (by omega)),hM.blk h.b1 (hS _ (by omega)),hM.blk h.b2 (hS _ (by omega))⟩
theorem CW.drew (h:CW w sv sf x y W):CW w sv sf x y W.drew:=⟨h.e.drew,h.b0.drew,h.b1.drew,h.b2.drew⟩
end
theorem qG (p0 p1:Value) (w:World):
  CallsD prog 36 #[p0,p1] .returning w fun e u' w'=>e= .returned (.tuple #[])/\u'= .returning/\w'=w:=by
 refine callsD_of_wpS func36 rfl fun c₀ cs hu=> ?_;apply wpS_seq;apply wpS_region;simp[wpOpsS,go_sem,recoverD,hu,ntmps36,Exit.thenS];apply wpS_seq;apply wpS_region;simp[wpOpsS,go_sem,Exit.thenS];refine wpS_cond (t:=false) (by simp[Act.eval]) ?_;simp only[aN,if_false];refine wpS_of_wp (wp_skip ?_)
 cases c₀;simp_all[bodyPostS,results,results36]
theorem pY (W0 w:World) (sv sf x y:Value) (nm:List UInt8) (n:Int) (older:List PanicEntry) (H:CW W0 sv sf x y w):
  CallsD prog 36 #[.pointer (some ⟨W0.heap.size+1,0,none⟩), .pointer (some ⟨W0.heap.size+1+1,0,none⟩)] (.panicking ({v:= .iface 102 (.agg #[.string (ai nm), .int .i64 n]),recovered:=false}::older)) w fun e u' w'=>
   e= .returned (.tuple #[])/\u'= .panicking ({v:= .iface 102 (.agg #[.string (ai nm), .int .i64 n]),recovered:=true}::older)/\CW W0 sv sf (.string (ai nm)) (.int .i64 n) w':=by
 have hx:=O w (.cells #[.string (ai nm), .int .i64 n] 102);have HBw:=G (an w 102 #[.string (ai nm), .int .i64 n]);have HC:=G (H.ex hx);have hlt:=H.lt;clear hx H;refine callsD_of_wpS func36 rfl fun c₀ cs hu=> ?_;apply wpS_seq;apply wpS_region;simp[wpOpsS,go_sem,recoverD,hu,ntmps36,Exit.thenS];have hT: ∀v a b:Value,#[a,b]++((Array.replicate 18 undef).setIfInBounds 3 v).setIfInBounds 0 v= #[a,b,v,undef,undef,v,undef,undef,undef,undef,undef,undef,undef,undef,undef,undef,undef,undef,undef,undef]:=by
  intro v a b;apply jl;simp[gJ]
 rw[hT];clear hT;apply wpS_seq;apply wpS_region;simp[wpOpsS,go_sem,Exit.thenS];refine wpS_cond (t:=true) (by simp[Act.eval]) ?_;simp only[if_true];refine wpS_of_wp ?_;have hta: ∀(v:Value) (xT:TypeId) (w:World),(Instr.typeAssert (.iface 102 v) xT 102 true).run prog w= .ok (.tuple #[v, .bool true]) w:=fun v xT w=>by simp[Instr.typeAssert,run_underlying underlying102]
 go_wp2_with fail;clear hta;have hb:=HBw.out.cell;have c1:=HC.out.b1.cell;have c2:=HC.out.b2.cell;have z1:=HC.out.b1.frozen;have z2:=HC.out.b2.frozen;have m1:w.heap.size≠W0.heap.size+1:=by omega
 have m2:w.heap.size≠W0.heap.size+1+1:=by omega
 have m3:W0.heap.size+1≠W0.heap.size+1+1:=by omega
 generalize w.alloc (.cells #[.string (ai nm), .int .i64 n] 102)=w5 at*;go_region;have hfin:=HC.out.put (.string (ai nm)) (.int .i64 n);refine⟨rfl,_,rfl, .tuple #[],?_,rfl,rfl,hfin.drew⟩;simp[results,results36]
theorem yx (w:World) (sv sf:Value) (ht:BT w):CK ⟨w.heap.size+1+1+1,w.heap.size,w.heap.size+1,w.heap.size+1+1,sv,sf⟩ mx (.map none) eY ((((w.alloc (.map #[] 0)).alloc (.map #[] 0)).alloc (.map #[] 0)).alloc (.cells #[sv,sf, .map (some w.heap.size), .map (some (w.heap.size+1)), .map (some (w.heap.size+1+1)), .map none] 108)):=by
 have e1:=O w (.map #[] 0);have e2:=O (w.alloc (.map #[] 0)) (.map #[] 0);have e3:=O ((w.alloc (.map #[] 0)).alloc (.map #[] 0)) (.map #[] 0);have e4:=O (((w.alloc (.map #[] 0)).alloc (.map #[] 0)).alloc (.map #[] 0)) (.cells #[sv,sf, .map (some w.heap.size), .map (some (w.heap.size+1)), .map (some (w.heap.size+1+1)), .map none] 108);have m1:=(((gp w).ext e2).ext e3).ext e4;have m2:=((gp (w.alloc (.map #[] 0))).ext e3).ext e4;have m3:=(gp ((w.alloc (.map #[] 0)).alloc (.map #[] 0))).ext e4;have b:=an (((w.alloc (.map #[] 0)).alloc (.map #[] 0)).alloc (.map #[] 0)) 108 #[sv,sf, .map (some w.heap.size), .map (some (w.heap.size+1)), .map (some (w.heap.size+1+1)), .map none];simp only[World.size_alloc]at m1 m2 m3 b;exact⟨b,m1.congr fun s=>rfl,m2.congr fun s=>rfl,m3.congr fun s=>rfl, .inl ⟨rfl,rfl⟩,(((ht.ext e1).ext e2).ext e3).ext e4⟩
theorem pD (p:Pg) (hw:lz p<=6000000) (P:Nat->Prop) (w:World) (A B:Option Addr) (n c m d:Nat) (hV:mc w P (.slice A n c) p.vs) (hF:mm w P (.slice B m d) p.fs) (hT:du w w.heap.size) (hB:BT w):
  Calls prog 13 #[.agg #[.slice A n c, .slice B m d]] w fun e w'=>e= .returned (.tuple #[.string (ai (gH p).1), .int .i64 (gH p).2])/\aq w w':=by
 have hmm:= @run_makeMap prog;have hmf: ∀(fn:Fn) (first cap:Array Value) (w:World),(Instr.makeFunc fn first cap).run prog w= .ok (.func fn first cap) w:=fun _ _ _ _=>rfl;have HW0:=G (Cg w (.slice A n c) (.slice B m d) (.string ⟨#[]⟩) (.int .i64 0));have HV:=G (hV.keep (Q:=fun b=>b<w.heap.size) ⟨ah _,fun _ _ _=>rfl⟩ (fun b h1 h2=>h2));have HF:=G (hF.keep (Q:=fun b=>b<w.heap.size) ⟨ah _,fun _ _ _=>rfl⟩ (fun b h1 h2=>h2));have HVD:=G (fun W (h:aq w W)=>tC p hw (fun b=>b<w.heap.size) W A B n c m d (HV.out.keep (.of_ext h) (fun b hb _=>hb)) (HF.out.keep (.of_ext h) (fun b hb _=>hb)) (fU hT h));have HB:=G hB;have HL:=G (show gH p=if gZ p=true then(match fR p with| .ok _=>([],0)| .error e=>e)else([],1)from rfl);have HAL:=G (fun(X:CB) (hX:X.Ok) hg W h1 h2 h3 h4=>wK p hw X hX hg (fun b=>b<w.heap.size) W h1 h2 h3 h4);have hg0:0<w.heap.size:=by obtain⟨t,fr,h⟩:=hB;exact(Array.getElem?_eq_some_iff.1 h).1
 clear hV hF hT hB;generalize gZ p=ok at*;generalize fR p=r at*
 cases ok with
 |false=>
  have HQ:=G (show gH p=([],1)from HL.out);go_enter_defers func13,ntmps13;go_wp2_with (go_at_call 35;refine(HVD.out _ HW0.out.e).mono ?_;rintro e w1 ⟨rfl,hE⟩;have HW1:=G (HW0.out.ex hE);have c1:=HW1.out.b1.cell;have z1:=HW1.out.b1.frozen;have c2:=HW1.out.b2.cell;have z2:=HW1.out.b2.frozen;clear hE);have HW2:=G (HW1.out.put (.string ⟨#[]⟩) (.int .i64 1));have d1:=HW2.out.b1.cell;have d2:=HW2.out.b2.cell;refine⟨.tuple #[.string ⟨#[]⟩, .int .i64 1],?_,by rw[HQ.out];rfl,HW2.out.e⟩;simp[results,results13,go_sem,d1,d2]
 |true=>
  cases r with
  |ok u=>
   have HQ:=G (show gH p=([],0)from HL.out);go_enter_defers func13,ntmps13;go_wp2_with (first|(go_at_call 35;refine(HVD.out _ HW0.out.e).mono ?_;rintro e w1 ⟨rfl,hE⟩;have HW1:=G (HW0.out.ex hE);have c0:=HW1.out.b0.cell;have HK:=G (yx w1 (.slice A n c) (.slice B m d) (HB.out.ext HW1.out.e));have HE4:=G ((((O w1 (.map #[] 0)).alloc' (.map #[] 0)).alloc' (.map #[] 0)).alloc' (.cells #[.slice A n c, .slice B m d, .map (some w1.heap.size), .map (some (w1.heap.size+1)), .map (some (w1.heap.size+1+1)), .map none] 108));have hl1:=HW1.out.lt;have HW4:=G (HW1.out.ex HE4.out);clear hE)|(go_at_call 37;refine(HAL.out ⟨w1.heap.size+1+1+1,w1.heap.size,w1.heap.size+1,w1.heap.size+1+1, .slice A n c, .slice B m d⟩ ⟨by simp only;omega,by simp only;omega,by simp only;omega,by simp only;omega,by simp only;omega,by simp only;omega⟩ (by simp only;omega) _ (HV.out.keep (.of_ext HW4.out.e) (fun b hb _=>hb)) (HF.out.keep (.of_ext HW4.out.e) (fun b hb _=>hb)) (fun b hb hu=>by simp only[CB.U,CB.S]at hu;omega) HK.out).mono ?_;unfold EB bW;rintro e w5 ⟨hM,rfl⟩;have HW5:=G (HW4.out.mv hM (fun k hk hu=>by simp only[CB.U,CB.S]at hu;omega));have c1:=HW5.out.b1.cell;have z1:=HW5.out.b1.frozen;have c2:=HW5.out.b2.cell;have z2:=HW5.out.b2.frozen;clear hM));have HW7:=G (HW5.out.put (.string ⟨#[]⟩) (.int .i64 0));refine leaves_cons (f:=36) (args:= #[.pointer (some ⟨w.heap.size+1,0,none⟩), .pointer (some ⟨w.heap.size+1+1,0,none⟩)]) (by simp) (by simp[go_sem]) ?_;refine(qG _ _ _).mono ?_;rintro e u' w8 ⟨rfl,rfl,rfl⟩;have d1:=HW7.out.b1.cell;have d2:=HW7.out.b2.cell;refine(show Leaves _ _ _ _ [] .returning _ from ?_);refine⟨.tuple #[.string ⟨#[]⟩, .int .i64 0],?_,by rw[HQ.out];rfl,HW7.out.e⟩;simp[results,results13,go_sem,d1,d2]
  |error q=>
   obtain⟨nm,en⟩:=q;have HQ:=G (show gH p=(nm,en)from HL.out);go_enter_defers func13,ntmps13;go_wp2_with (first|(go_at_call 35;refine(HVD.out _ HW0.out.e).mono ?_;rintro e w1 ⟨rfl,hE⟩;have HW1:=G (HW0.out.ex hE);have c0:=HW1.out.b0.cell;have HK:=G (yx w1 (.slice A n c) (.slice B m d) (HB.out.ext HW1.out.e));have HE4:=G ((((O w1 (.map #[] 0)).alloc' (.map #[] 0)).alloc' (.map #[] 0)).alloc' (.cells #[.slice A n c, .slice B m d, .map (some w1.heap.size), .map (some (w1.heap.size+1)), .map (some (w1.heap.size+1+1)), .map none] 108));have hl1:=HW1.out.lt;have HW4:=G (HW1.out.ex HE4.out);clear hE)|(go_at_call 37;refine(HAL.out ⟨w1.heap.size+1+1+1,w1.heap.size,w1.heap.size+1,w1.heap.size+1+1, .slice A n c, .slice B m d⟩ ⟨by simp only;omega,by simp only;omega,by simp only;omega,by simp only;omega,by simp only;omega,by simp only;omega⟩ (by simp only;omega) _ (HV.out.keep (.of_ext HW4.out.e) (fun b hb _=>hb)) (HF.out.keep (.of_ext HW4.out.e) (fun b hb _=>hb)) (fun b hb hu=>by simp only[CB.U,CB.S]at hu;omega) HK.out).mono ?_;unfold EB bW a_;rintro e w5 ⟨hM,rfl⟩;have HW5:=G (HW4.out.mv hM (fun k hk hu=>by simp only[CB.U,CB.S]at hu;omega));clear hM));refine leaves_cons (f:=36) (args:= #[.pointer (some ⟨w.heap.size+1,0,none⟩), .pointer (some ⟨w.heap.size+1+1,0,none⟩)]) (by simp) (by simp[go_sem]) ?_;refine(pY w w5 _ _ _ _ nm en _ HW5.out).mono ?_;rintro e u' w8 ⟨rfl,rfl,H8⟩;have d1:=H8.b1.cell;have d2:=H8.b2.cell;refine(show Leaves _ _ _ _ [] .returning _ from ?_);refine⟨.tuple #[.string (ai nm), .int .i64 en],?_,by rw[HQ.out],H8.e⟩;simp[results,results13,go_sem,d1,d2]
end
section
open Go.RowKit
theorem Cf:ig 1=[49]:=by rw[ig];rfl
end
section
open Go.RowKit
def Bx:List UInt8:=[102,117,110,99,32,109,97,105,110,40,41,32,123,32,114,101,116,117,114,110,32,51,48,48,59,32,125]
def Bv:List UInt8:=[118,97,114,32,97,91,51,93,59,32,102,117,110,99,32,109,97,105,110,40,41,32,123,32,97,91,51,93,32,61,32,49,59,32,125]
def kJ:Pg:=eS (.mk 1 [] [] [] 300 [])
def jU:Pg:=⟨[⟨[97],3⟩],[⟨bC,[],[.mk 3 [97] [.mk 1 [] [] [] 3 [], .mk 1 [] [] [] 1 []] [] []]⟩]⟩
def zl:List bN:=[⟨2,[102,117,110,99],0,0⟩,⟨1,[109,97,105,110],0,5⟩,⟨5,[40],0,9⟩,⟨5,[41],0,10⟩,⟨5,[123],0,12⟩,⟨2,[114,101,116,117,114,110],0,14⟩,⟨3,[],300,21⟩,⟨5,[59],0,24⟩,⟨5,[125],0,26⟩]
def zi:List bN:=[⟨2,[118,97,114],0,0⟩,⟨1,[97],0,4⟩,⟨5,[91],0,5⟩,⟨3,[],3,6⟩,⟨5,[93],0,7⟩,⟨5,[59],0,8⟩,⟨2,[102,117,110,99],0,10⟩,⟨1,[109,97,105,110],0,15⟩,⟨5,[40],0,19⟩,⟨5,[41],0,20⟩,⟨5,[123],0,22⟩,⟨1,[97],0,24⟩,⟨5,[91],0,25⟩,⟨3,[],3,26⟩,⟨5,[93],0,27⟩,⟨5,[61],0,29⟩,⟨3,[],1,31⟩,⟨5,[59],0,32⟩,⟨5,[125],0,34⟩]
theorem wO:ge Bx=(zl,0,0):=by decide+kernel
theorem wL:ge Bv=(zi,0,0):=by decide+kernel
theorem wP:c7 44 ln zl= .ok (kJ,[]):=by kernel_rfl
theorem wM:c7 84 ln zi= .ok (jU,[]):=by kernel_rfl
theorem yp:ig 3=[51]:=by rw[ig];rfl
theorem zf:(j9 jU).length<=4000:=by
 have h1:cm (.mk 1 [] [] [] 1 [])=[49]:=by
  show ig 1=[49];exact Cf
 have h3:cm (.mk 1 [] [] [] 3 [])=[51]:=by
  show ig 3=[51];exact yp
 simp[j9,jU,kL,kK,bG,dK,jt,eK,eU,jq,dU,bC,tK,lG,uP,CV,yp,h1,h3]
theorem wQ:gZ kJ=true:=tR (by decide) (by decide) (by decide)
theorem wN:gZ jU=true:=by
 unfold gZ;rw[decide_eq_true zf];decide+kernel
theorem zk:lQ Bx=(kJ,0,0):=by
 unfold lQ;rw[wO];simp only[if_true];unfold vC;rw[show c7 (4*zl.length+8) ln zl= .ok (kJ,[])from wP];simp only[wQ,if_true]
theorem zh:lQ Bv=(jU,0,0):=by
 unfold lQ;rw[wL];simp only[if_true];unfold vC;rw[show c7 (4*zi.length+8) ln zi= .ok (jU,[])from wM];simp only[wN,if_true]
theorem Bw:(gH kJ).2=0:=by
 have:fR kJ= .ok ():=tS (fun g lo _=>by simp[lw,l7,CR.then]) (by simp[cX]);unfold gH;rw[wQ,this];rfl
theorem Bt:(gH jU).2=0:=by
 have:fR jU= .ok ():=by kernel_rfl
 unfold gH;rw[wN,this];rfl
theorem zj:lM kJ [] 100=⟨1,0,44,0,0,[],0⟩:=by
 show xf (eS (.mk 1 [] [] [] 300 [])) [] (199+1) (99+1)=_;rw[tQ 199 99,qq _ 198 _ _ 300 (by decide) (by decide)];rfl
theorem zg:(lM jU [] 100).kind=2:=by kernel_rfl
theorem CU:lz kJ<=6000000:=by decide+kernel
theorem CT:lz jU<=6000000:=by decide+kernel
end
section
open Go.RowKit
theorem ED:oJ prog 123 9 59 (.agg #[.string ⟨#[]⟩, .slice none 0 0, .slice none 0 0]):=⟨underlying123,underlying9,fun w=>by kernel_rfl⟩
theorem B5:oJ prog 124 9 21 (.int .i32 0):=⟨underlying124,underlying9,fun w=>by kernel_rfl⟩
theorem EE:oJ prog 125 9 40 (.slice none 0 0):=⟨underlying125,underlying9,fun w=>by kernel_rfl⟩
def yQ (w:World) (P:Nat->Prop) (v:Value) (R:Rs):Prop:=
 ∃A c,v= .slice A R.length c/\(R=[]\/R.length<=c/\c<=maxLen/\ ∃b o,A=some ⟨b,o,none⟩/\P b/\b<w.heap.size/\ ∃(da:Nat->Option Addr) (dc:Nat->Nat),∀i,(h:i<R.length)->w.cell? ⟨b,o+i*2,none⟩=some (.int .i64 R[i].1)/\w.cell? ⟨b,o+i*2+1,none⟩=some (.slice (da i) R[i].2.length (dc i))/\Sl w (da i) (dc i) R[i].2/\ ∀b2 o2,da i=some ⟨b2,o2,none⟩->R[i].2≠ []->P b2)
theorem Sl.keepP {w w':World} {P:Nat->Prop} {A:Option Addr} {c:Nat} {l:List UInt8} (h:Sl w A c l) (hk:cC P w w') (hP: ∀b o,A=some ⟨b,o,none⟩->l≠ []->P b):Sl w' A c l:=by
 refine⟨h.le,h.max,h.nil,?_⟩;by_cases hl:l=[]
 ·exact .inl hl
 rcases h.rd with h0|⟨b,o,ha,hb,hc⟩
 ·exact .inl h0
 ·exact .inr ⟨b,o,ha,aA hb hk.size,fun i hi=>(hk.cell _ (hP b o ha hl) hb).trans (hc i hi)⟩
theorem yQ.keep {w w':World} {P:Nat->Prop} {v:Value} {R:Rs} (h:yQ w P v R) (hk:cC P w w'):yQ w' P v R:=by
 obtain⟨A,c,rfl,h⟩:=h;refine⟨A,c,rfl,h.imp id fun⟨h1,h2,b,o,ha,hP,hb,da,dc,hc⟩=>⟨h1,h2,b,o,ha,hP,aA hb hk.size,da,dc,fun i hi=> ?_⟩⟩;obtain⟨q0,q1,q2,q3⟩:=hc i hi;exact⟨(hk.cell _ hP hb).trans q0,(hk.cell _ hP hb).trans q1,q2.keepP hk q3,q3⟩
structure MX where
 g:Nat
 bf:Nat
 bi:Nat
 ba:Nat
 lo:Nat
 hi:Nat
 rb:List UInt8->Nat
 fv:List UInt8->Value
 rv:Value
 al:List UInt8->Nat
 mv:Nat
abbrev MX.S (X:MX) (k:Nat):Prop:=(X.lo<=k/\k≠X.mv)/\k<X.hi
abbrev MX.P (X:MX) (k:Nat):Prop:=k<X.lo
abbrev MX.p (X:MX):Value:= .pointer (some ⟨X.g,0,none⟩)
structure MX.Ok (X:MX):Prop where
 fi:X.bf≠X.bi
 fa:X.bf≠X.ba
 ia:X.bi≠X.ba
 g:X.S X.g
 f:X.S X.bf
 i:X.S X.bi
 a:X.S X.ba
def oD (X:MX) (σ:Ms) (s:List UInt8):Value:=if σ.arrs s=[]then .slice none 0 0 else .slice (some ⟨X.rb s,0,none⟩) (σ.arrs s).length (σ.arrs s).length
def y6 (l:List UInt8):Array Value:=(kr l).toArray
structure MA (X:MX) (C:Cx) (σ:Ms) (w:World):Prop where
 ok:X.Ok
 blk: ∃lf:Int,lf.toNat=σ.left/\ -9223372036854775808<=lf/\lf<=9223372036854775807/\aL w X.g 127 #[.map (some X.bf), .map (some X.bi), .map (some X.ba),X.rv, .int .i64 lf, .int .i64 (σ.stk:Int), .int .i64 0, .int .i64 0, .int .i64 0, .int .i64 0, .int .i64 0, .slice none 0 0, .int .i64 (σ.used:Int)]
 f: ∃L,bM w X.bf L/\ ∀s,(L s).getD (.agg #[.string ⟨#[]⟩, .slice none 0 0, .slice none 0 0])=X.fv s
 fr: ∀s,∃pv bv,X.fv s= .agg #[.string (ai (C.fn s).nm),pv,bv]/\lC w X.P pv (C.fn s).ps/\cR w X.P bv (C.fn s).body
 i: ∃L,bM w X.bi L/\ ∀s,(L s).getD (.int .i32 0)= .int .i32 (σ.ints s)
 a: ∃L,bM w X.ba L/\ ∀s,(L s).getD (.slice none 0 0)=oD X σ s
 row: ∀s,σ.arrs s≠ []->aL w (X.rb s) 5 (y6 (σ.arrs s))/\X.S (X.rb s)/\X.rb s≠X.g/\(σ.arrs s).length<=1073741824
 inj: ∀s t,σ.arrs s≠ []->σ.arrs t≠ []->X.rb s=X.rb t->s=t
 r:yQ w X.P X.rv C.R
 used:σ.used<=C.R.length
 stk:σ.stk<=1024
 rng:j0 σ
 t:BT w
 t0:X.P 0
 top:X.hi<=w.heap.size
 len: ∀s,(σ.arrs s).length=X.al s
section
variable {X:MX} {C:Cx} {σ:Ms} {w w':World}
theorem MA.mv {S:Nat->Prop} (h:MA X C σ w) (hM:Mv S w w') (hS: ∀k,k<X.hi-> ¬S k):MA X C σ w':=by
 have ok:=h.ok;have ht:=h.top;have hk:cC X.P w w':=hM.keepP fun k hk _=>hS k (by have:=ok.g;simp only[MX.S,MX.P]at*;omega);obtain⟨lf,q1,q2,q3,hb⟩:=h.blk;obtain⟨L1,f1,f2⟩:=h.f;obtain⟨L2,i1,i2⟩:=h.i;obtain⟨L3,a1,a2⟩:=h.a;refine⟨ok,⟨lf,q1,q2,q3,hM.blk hb (hS _ ok.g.2)⟩,⟨L1,hM.map f1 (hS _ ok.f.2),f2⟩,fun s=> ?_,⟨L2,hM.map i1 (hS _ ok.i.2),i2⟩,⟨L3,hM.map a1 (hS _ ok.a.2),a2⟩,fun s hs=> ?_,h.inj,h.r.keep hk,h.used,h.stk,h.rng,?_,h.t0,aZ h.top hM.size,h.len⟩
 ·obtain⟨pv,bv,e,p1,p2⟩:=h.fr s;exact⟨pv,bv,e,p1.keep hk (fun b hb _=>hb),p2.keep hk (fun b hb _=>hb)⟩
 ·obtain⟨r1,r2,r3⟩:=h.row s hs;exact⟨hM.blk r1 (hS _ r2.2),r2,r3⟩
 ·obtain⟨t,fr,ht⟩:=h.t;refine⟨t,fr,(hM.block _ (Array.getElem?_eq_some_iff.1 ht).1 (hS _ ?_)).trans ht⟩;have:=ok.g;have:=h.t0;simp only[MX.S,MX.P]at*;omega
theorem MA.ext (h:MA X C σ w) (he:aq w w'):MA X C σ w':=h.mv (S:=fun _=>False) (.of_ext he) (fun _ _ h=>h)
end
def iy (k:Int):Ending:= .panicked [{v:= .iface 129 (.agg #[.int .i64 k]),recovered:=false}]
def gC (X:MX) (o:Oc) (w:World):Prop:=
 ∃v0 v1 v2 v3 v4 v5 A c,aL w X.g 127 #[v0,v1,v2,v3,v4,v5, .int .i64 0, .int .i64 o.call, .int .i64 o.a0, .int .i64 o.a1, .int .i64 o.a2, .slice A o.data.length c, .int .i64 (o.used:Int)]/\Sl w A c o.data/\ ∀b i,A=some ⟨b,i,none⟩->o.data≠ []->X.hi<=b
theorem MA.halt {X:MX} {C:Cx} {σ:Ms} {w:World} (h:MA X C σ w) (k:Int):gC X ⟨k,0,0,0,0,[],σ.used⟩ w:=by
 obtain⟨lf,_,_,_,hb⟩:=h.blk;exact⟨_,_,_,_,_,_,none,0,hb,me w,fun b i e=>by cases e⟩
def Bn (X:MX) (C:Cx) (σ:Ms) (w:World) (e:Ending) (w':World):Prop:=w.grownBy w' (some X.g)/\if σ.left=0 then e=iy 3/\gC X σ.long w' else e= .returned (.tuple #[])/\MA X C σ.step w'
abbrev dJ (X:MX) (lf:Int) (σ:Ms):Array Value:= #[.map (some X.bf), .map (some X.bi), .map (some X.ba),X.rv, .int .i64 lf, .int .i64 (σ.stk:Int), .int .i64 0, .int .i64 0, .int .i64 0, .int .i64 0, .int .i64 0, .slice none 0 0, .int .i64 (σ.used:Int)]
section
variable {X:MX} {C:Cx} {σ σ':Ms} {w w':World}
theorem MA.ne (h:MA X C σ w):X.bf≠X.g/\X.bi≠X.g/\X.ba≠X.g:=by
 obtain⟨lf,_,_,_,hb⟩:=h.blk;obtain⟨_,f1,_⟩:=h.f;obtain⟨_,i1,_⟩:=h.i;obtain⟨_,a1,_⟩:=h.a;exact⟨fun e=>f8 hb (e▸f1),fun e=>f8 hb (e▸i1),fun e=>f8 hb (e▸a1)⟩
theorem MA.reg (h:MA X C σ w) (hM:w.grownBy w' (some X.g)) (lf:Int) (q1:lf.toNat=σ'.left) (q2: -9223372036854775808<=lf) (q3:lf<=9223372036854775807) (hb:aL w' X.g 127 (dJ X lf σ')) (ei:σ'.ints=σ.ints) (ea:σ'.arrs=σ.arrs) (hu:σ'.used<=C.R.length) (hs:σ'.stk<=1024):MA X C σ' w':=by
 have ok:=h.ok;obtain⟨n1,n2,n3⟩:=h.ne;obtain⟨L1,f1,f2⟩:=h.f;obtain⟨L2,i1,i2⟩:=h.i;obtain⟨L3,a1,a2⟩:=h.a;have hk:cC X.P w w':= .of_grown hM (fun b hb e=>by injection e with e;subst e;have:=ok.g;simp only[MX.S,MX.P]at*;omega);refine⟨ok,⟨lf,q1,q2,q3,hb⟩,⟨L1,f1.grown hM (my n1),f2⟩,fun s=> ?_,⟨L2,i1.grown hM (my n2),fun s=>by rw[ei];exact i2 s⟩,⟨L3,a1.grown hM (my n3),fun s=>by rw[a2 s];unfold oD;rw[ea]⟩,fun s hs=> ?_,fun s t=>by rw[ea];exact h.inj s t,h.r.keep hk,hu,hs,fun x=>by rw[ei];exact h.rng x,h.t.grown hM (fun e=> ?_),h.t0,aZ h.top hM.size,fun s=>by rw[ea];exact h.len s⟩
 ·obtain⟨pv,bv,e,p1,p2⟩:=h.fr s;exact⟨pv,bv,e,p1.keep hk (fun b hb _=>hb),p2.keep hk (fun b hb _=>hb)⟩
 ·rw[ea]at hs⊢;obtain⟨r1,r2,r3,r4⟩:=h.row s hs;exact⟨r1.grown hM (my r3),r2,r3,r4⟩
 ·have:=ok.g;have:=h.t0;rw[<-e]at this;simp only[MX.S,MX.P]at*;omega
theorem cd (w:World) (g i:Nat) (v:Value):w.grownBy (w.setCell ⟨g,i,none⟩ v) (some g):=⟨rfl,rfl,rfl,by simp[World.setCell],fun k _ hk=>Below.heap_setCell w _ _ k (fun e=>hk (by rw[e]))⟩
theorem MA.dec (h:MA X C σ w) {lf:Int} (hb:aL w X.g 127 (dJ X lf σ)) (hl:lf.toNat=σ.left) (h0: ¬lf<=0) (q3:lf<=9223372036854775807):MA X C σ.step (w.setCell ⟨X.g,4,none⟩ (.int .i64 (lf-1))):=by
 refine h.reg (cd w X.g 4 _) (lf-1) (by show _=σ.left-1;omega) (by omega) (by omega) ?_ rfl rfl h.used h.stk;have e:(dJ X lf σ).setIfInBounds 4 (.int .i64 (lf-1))=dJ X (lf-1) σ.step:=rfl;rw[<-e];exact hb.set 4 _
end
theorem pk (X:MX) (C:Cx) (σ:Ms) (w:World) (h:MA X C σ w):Calls prog 162 #[X.p] w (Bn X C σ w):=by
 obtain⟨lf,q1,q2,q3,hb⟩:=h.blk;have HH:=G (h.halt 3);have hc:=hb.cell;have hf:=hb.frozen;unfold Bn;by_cases h0:lf<=0
 ·have hl:σ.left=0:=by omega
  simp only[if_pos hl];clear h hb;obtain⟨g,bf,bi,ba,lo,hi,rb,fv,rv,al,mvb⟩:=X;simp only[MX.p]at*;go_enter func162,ntmps162;go_wp2_with fail;exact⟨rfl,World.grownBy.refl _ _,rfl,HH.out⟩
 ·have hl: ¬σ.left=0:=by omega
  simp only[if_neg hl];have hw1:IntKind.i64.wrap (lf-1)=lf-1:=by simp[IntKind.wrap,IntKind.signed,IntKind.bits];omega
  have HD:=G (h.dec hb q1 h0 q3);have HG:=G (cd w X.g 4 (.int .i64 (lf-1)));clear h hb HH;obtain⟨g,bf,bi,ba,lo,hi,rb,fv,rv,al,mvb⟩:=X;simp only[MX.p]at*;go_enter func162,ntmps162;go_wp2_with fail;exact bodyPost_end (results_none rfl _ _ _) rfl ⟨HG.out,rfl,HD.out⟩
theorem mq (b:Bool) (w:World):Calls prog 188 #[.bool b] w fun e w'=>e= .returned (.int .i32 (k9 b))/\aq w w':=by
 cases b;all_goals
  go_enter func188,ntmps188;go_wp2_with fail;go_ret;exact⟨rfl,aR _⟩
theorem nH {a b:Int} (ha:eO a):eO (a.tmod b):=by
 unfold eO at ha⊢;have h1:(a.tmod b).natAbs<=a.natAbs:=by rw[Int.natAbs_tmod];exact Nat.mod_le _ _
 by_cases h:0<=a
 ·have:=Int.tmod_nonneg b h;omega
 ·have h2:0<=(-a).tmod b:=Int.tmod_nonneg b (by omega);rw[Int.neg_tmod]at h2;omega
def ti:ER Int->Ending
 | .ok (v,_)=> .returned (.int .i32 v)
 | .error _=>iy 2
theorem oB (op:List UInt8) (a b:Int) (ha:eO a) (hb:eO b) (σ:Ms) (w:World):Calls prog 189 #[.string (ai op), .int .i32 a, .int .i32 b] w fun e w'=>e=ti (fM op a b σ)/\aq w w':=by
 unfold eO at ha hb;have HW:=G (fun c W=>mq c W);have hwr: ∀z:Int,IntKind.i32.wrap z=kI z:=fun _=>rfl;have HX:=G (aR w);by_cases h1:op=[43]
 ·subst h1;go_enter func189,ntmps189;go_wp2_with fail;go_ret;exact⟨rfl,HX.out⟩
 by_cases h2:op=[45]
 ·subst h2;go_enter func189,ntmps189;go_wp2_with fail;go_ret;exact⟨rfl,HX.out⟩
 by_cases h3:op=[42]
 ·subst h3;go_enter func189,ntmps189;go_wp2_with fail;go_ret;exact⟨rfl,HX.out⟩
 by_cases h4:op=[47]
 ·subst h4;by_cases hb0:b=0
  ·subst hb0;go_enter func189,ntmps189;go_wp2_with fail;exact⟨rfl,rfl,HX.out⟩
  ·have hb1:=beq_eq_false_iff_ne.2 hb0;have HE:=G (show fM [47] a b σ= .ok (kI (a.tdiv b),σ) by simp[fM,hb0]);go_enter func189,ntmps189;go_wp2_with fail;go_ret;exact⟨by rw[HE.out];rfl,HX.out⟩
 by_cases h5:op=[37]
 ·subst h5;by_cases hb0:b=0
  ·subst hb0;go_enter func189,ntmps189;go_wp2_with fail;exact⟨rfl,rfl,HX.out⟩
  ·have hb1:=beq_eq_false_iff_ne.2 hb0;have HE:=G (show fM [37] a b σ= .ok (kI (a.tmod b),σ) by simp[fM,hb0]);go_enter func189,ntmps189;go_wp2_with fail;go_ret;exact⟨by rw[HE.out,nF (nH ha)];rfl,HX.out⟩
 by_cases h6:op=[61,61]
 ·subst h6;go_enter func189,ntmps189;go_wp2_with (go_at_call 188;refine(HW.out _ _).mono ?_;rintro e w1 ⟨rfl,hE⟩;have HX1:=G (HX.out.trans hE);clear hE);go_ret;exact⟨rfl,HX1.out⟩
 by_cases h7:op=[33,61]
 ·subst h7;go_enter func189,ntmps189;go_wp2_with (go_at_call 188;refine(HW.out _ _).mono ?_;rintro e w1 ⟨rfl,hE⟩;have HX1:=G (HX.out.trans hE);clear hE);go_ret;exact⟨rfl,HX1.out⟩
 by_cases h8:op=[60]
 ·subst h8;go_enter func189,ntmps189;go_wp2_with (go_at_call 188;refine(HW.out _ _).mono ?_;rintro e w1 ⟨rfl,hE⟩;have HX1:=G (HX.out.trans hE);clear hE);go_ret;exact⟨rfl,HX1.out⟩
 by_cases h9:op=[60,61]
 ·subst h9;go_enter func189,ntmps189;go_wp2_with (go_at_call 188;refine(HW.out _ _).mono ?_;rintro e w1 ⟨rfl,hE⟩;have HX1:=G (HX.out.trans hE);clear hE);go_ret;exact⟨rfl,HX1.out⟩
 by_cases h10:op=[62]
 ·subst h10;go_enter func189,ntmps189;go_wp2_with (go_at_call 188;refine(HW.out _ _).mono ?_;rintro e w1 ⟨rfl,hE⟩;have HX1:=G (HX.out.trans hE);clear hE);go_ret;exact⟨rfl,HX1.out⟩
 have n1:=beq_eq_false_iff_ne.2 h1;have n2:=beq_eq_false_iff_ne.2 h2;have n3:=beq_eq_false_iff_ne.2 h3;have n4:=beq_eq_false_iff_ne.2 h4;have n5:=beq_eq_false_iff_ne.2 h5;have n6:=beq_eq_false_iff_ne.2 h6;have n7:=beq_eq_false_iff_ne.2 h7;have n8:=beq_eq_false_iff_ne.2 h8;have n9:=beq_eq_false_iff_ne.2 h9;have n10:=beq_eq_false_iff_ne.2 h10
 have HE:=G (show fM op a b σ= .ok (k9 (decide (b<=a)),σ) by
  unfold fM
  rw[if_neg h1,if_neg h2,if_neg h3,if_neg (by simp[h4,h5]),if_neg h6,if_neg h7,if_neg h8,if_neg h9,if_neg h10])
 go_enter func189,ntmps189;go_wp2_with (go_at_call 188;refine(HW.out _ _).mono ?_;rintro e w1 ⟨rfl,hE⟩;have HX1:=G (HX.out.trans hE);clear hE);go_ret;exact⟨by rw[HE.out];rfl,HX1.out⟩
end
section
open Go.RowKit
section
variable {X:MX} {C:Cx} {σ σ':Ms} {w w':World}
theorem MA.lookA (h:MA X C σ w) {s:List UInt8} (hs:s.length<=1073741824):(Instr.lookup 125 (.map (some X.ba)) (.string (ai s)) false).run prog w= .ok (oD X σ s) w:=by
 obtain⟨L,a1,a2⟩:=h.a;rw[(a1.look EE (by unfold maxLen;omega)).1,a2]
theorem MA.lookI (h:MA X C σ w) {s:List UInt8} (hs:s.length<=1073741824):(Instr.lookup 124 (.map (some X.bi)) (.string (ai s)) false).run prog w= .ok (.int .i32 (σ.ints s)) w:=by
 obtain⟨L,a1,a2⟩:=h.i;rw[(a1.look B5 (by unfold maxLen;omega)).1,a2]
theorem MA.mcell (h:MA X C σ w): ∃lf:Int,lf.toNat=σ.left/\aL w X.g 127 (dJ X lf σ):=by
 obtain⟨lf,q1,_,_,hb⟩:=h.blk;exact⟨lf,q1,hb⟩
end
def gA (X:MX) (σ:Ms) (nm:List UInt8) (i:Int):Ending:=if 0<=i/\i<(σ.arrs nm).length then .returned (.pointer (some ⟨X.rb nm,i.toNat,none⟩))else iy 2
theorem iF (X:MX) (C:Cx) (σ:Ms) (w:World) (h:MA X C σ w) (nm:List UInt8) (hn:nm.length<=1073741824) (i:Int) (hi:eO i):
  Calls prog 166 #[X.p, .string (ai nm), .int .i32 i] w fun e w'=>e=gA X σ nm i/\aq w w':=by
 have fl:=h.lookA hn;obtain⟨lf,_,hb⟩:=h.mcell;have hc:=hb.cell;have HX:=G (aR w);unfold eO at hi;have hrow:=h.row nm;clear h hb;by_cases h0:i<0
 ·have HE:=G (show gA X σ nm i=iy 2 by unfold gA;rw[if_neg (by omega)]);have h0d:decide (i<0)=true:=decide_eq_true h0;obtain⟨g,bf,bi,ba,lo,hi,rb,fv,rv,al,mvb⟩:=X;simp only[MX.p,dJ]at*;generalize oD _ σ nm=av at*;go_enter func166,ntmps166;go_wp2_with fail;exact⟨rfl,by rw[HE.out];rfl,HX.out⟩
 ·obtain⟨k,rfl⟩:=cD (show 0<=i by omega);have h0d:decide ((k:Int)<0)=false:=decide_eq_false h0;have hcv:IntKind.i64.wrap (k:Int)=k:=by simp[IntKind.wrap,IntKind.signed,IntKind.bits];omega
  by_cases he:σ.arrs nm=[]
  ·have HE:=G (show gA X σ nm k=iy 2 by unfold gA;rw[he,if_neg (by simp)]);have e1:oD X σ nm= .slice none 0 0:=by unfold oD;rw[if_pos he]
   rw[e1]at fl;obtain⟨g,bf,bi,ba,lo,hi,rb,fv,rv,al,mvb⟩:=X;simp only[MX.p,dJ]at*;clear hrow;go_enter func166,ntmps166;go_wp2_with fail;exact⟨rfl,by rw[HE.out];rfl,HX.out⟩
  ·have e1:oD X σ nm= .slice (some ⟨X.rb nm,0,none⟩) (σ.arrs nm).length (σ.arrs nm).length:=by unfold oD;rw[if_neg he]
   obtain⟨_,_,_,hlen⟩:=hrow he;rw[e1]at fl;obtain⟨n,hnn⟩: ∃n,(σ.arrs nm).length=n:=⟨_,rfl⟩
   rw[hnn]at fl hlen;by_cases hk:k<n
   ·have hk':(k:Int)<n:=by omega
    have HE:=G (show gA X σ nm k= .returned (.pointer (some ⟨X.rb nm,k,none⟩)) by unfold gA;rw[hnn,if_pos (by omega)];rfl);obtain⟨g,bf,bi,ba,lo,hi,rb,fv,rv,al,mvb⟩:=X;simp only[MX.p,dJ]at*;clear hnn e1 hrow;go_enter func166,ntmps166;go_wp2_with fail;go_ret;exact⟨by rw[HE.out];simp,HX.out⟩
   ·have hk': ¬(k:Int)<n:=by omega
    have HE:=G (show gA X σ nm k=iy 2 by unfold gA;rw[hnn,if_neg (by omega)]);obtain⟨g,bf,bi,ba,lo,hi,rb,fv,rv,al,mvb⟩:=X;simp only[MX.p,dJ]at*;clear hnn e1 hrow;go_enter func166,ntmps166;go_wp2_with fail;exact⟨rfl,by rw[HE.out];rfl,HX.out⟩
def xS (l:Lo):KF:=fun s=>(l s).map (.int .i32)
abbrev gG (lb:Nat) (ret:Option Int):Array Value:= #[.map (some lb), .bool ret.isSome, .int .i32 (ret.getD 0)]
structure FR (fb lb:Nat) (l:Lo) (ret:Option Int) (w:World):Prop where
 blk:aL w fb 182 (gG lb ret)
 m:bM w lb (xS l)
 rng:pL l
section
variable {X:MX} {C:Cx} {σ σ':Ms} {w w':World} {fb lb:Nat} {l:Lo} {ret:Option Int}
theorem FR.ne (h:FR fb lb l ret w):lb≠fb:=fun e=>f8 h.blk (e▸h.m)
theorem FR.mv {S:Nat->Prop} (h:FR fb lb l ret w) (hM:Mv S w w') (h1: ¬S fb) (h2: ¬S lb):FR fb lb l ret w':=⟨hM.blk h.blk h1,hM.map h.m h2,h.rng⟩
theorem FR.ext (h:FR fb lb l ret w) (he:aq w w'):FR fb lb l ret w':=⟨h.blk.ext he,h.m.ext he,h.rng⟩
theorem FR.look (h:FR fb lb l ret w) {s:List UInt8} (hs:s.length<=1073741824):(Instr.lookup 124 (.map (some lb)) (.string (ai s)) true).run prog w= .ok (.tuple #[.int .i32 ((l s).getD 0), .bool (l s).isSome]) w:=by
 rw[(h.m.look B5 (by unfold maxLen;omega)).2];simp only[xS]
 cases l s<;>rfl
theorem FR.upd {nm:List UInt8} {v:Int} (h:FR fb lb l ret w) (hv:eO v) (hm:bM w' lb ((xS l).upd nm (.int .i32 v))) (hg:w.grownBy w' (some lb)):FR fb lb (l.upd nm v) ret w':=by
 refine⟨h.blk.grown hg (my (ff h.ne)),hm.congr fun s=> ?_,h.rng.upd hv⟩;unfold KF.upd xS Lo.upd;by_cases e:s=nm
 ·rw[if_pos e,if_pos e];rfl
 ·rw[if_neg e,if_neg e]
theorem MA.setI {nm:List UInt8} {v:Int} {L:KF} (h:MA X C σ w) (hv:eO v) (h2: ∀s,(L s).getD (.int .i32 0)= .int .i32 (σ.ints s)) (hm:bM w' X.bi (L.upd nm (.int .i32 v))) (hg:w.grownBy w' (some X.bi)):MA X C (σ.setI nm v) w':=by
 have ok:=h.ok;obtain⟨lf,q1,q2,q3,hb⟩:=h.blk;obtain⟨L1,f1,f2⟩:=h.f;obtain⟨L3,a1,a2⟩:=h.a;have hk:cC X.P w w':= .of_grown hg (fun b hb e=>by injection e with e;subst e;have:=ok.i;have:=ok.g;simp only[MX.S,MX.P]at*;omega);refine⟨ok,⟨lf,q1,q2,q3,hb.grown hg (my (ff h.ne.2.1))⟩,⟨L1,f1.grown hg (my ok.fi),f2⟩,fun s=> ?_,⟨_,hm,fun s=> ?_⟩,⟨L3,a1.grown hg (my (ff ok.ia)),a2⟩,fun s hs=> ?_,h.inj,h.r.keep hk,h.used,h.stk,h.rng.setI hv,h.t.grown hg (fun e=> ?_),h.t0,aZ h.top hg.size,h.len⟩
 ·obtain⟨pv,bv,e,p1,p2⟩:=h.fr s;exact⟨pv,bv,e,p1.keep hk (fun b hb _=>hb),p2.keep hk (fun b hb _=>hb)⟩
 ·show((L.upd nm (.int .i32 v)) s).getD _= .int .i32 (if s=nm then v else σ.ints s);unfold KF.upd;split
  ·rfl
  ·exact h2 s
 ·obtain⟨r1,r2,r3,r4⟩:=h.row s hs;refine⟨r1.grown hg (my fun e=> ?_),r2,r3,r4⟩;obtain⟨_,i1,_⟩:=h.i;exact f8 r1 (e▸i1)
 ·have:=ok.i;have:=h.t0;rw[<-e]at this;simp only[MX.S,MX.P]at*;omega
end
def DH (X:MX) (C:Cx) (σ:Ms) (fb lb:Nat) (l:Lo) (ret:Option Int) (nm:List UInt8) (v:Int) (w:World) (e:Ending) (w':World):Prop:=
 e= .returned (.tuple #[])/\Mv (fun k=>k=lb\/k=X.bi) w w'/\if(l nm).isSome=true then MA X C σ w'/\FR fb lb (l.upd nm v) ret w' else MA X C (σ.setI nm v) w'/\FR fb lb l ret w'
theorem oC (X:MX) (C:Cx) (σ:Ms) (w:World) (h:MA X C σ w) (fb lb:Nat) (l:Lo) (ret:Option Int) (hF:FR fb lb l ret w) (hfl:X.hi<=fb/\X.hi<=lb) (nm:List UInt8) (hn:nm.length<=1073741824) (v:Int) (hv:eO v):
  Calls prog 165 #[X.p, .pointer (some ⟨fb,0,none⟩), .string (ai nm), .int .i32 v] w (DH X C σ fb lb l ret nm v w):=by
 have fl:=hF.look hn;have fc:=hF.blk.cell;obtain⟨lf,_,hb⟩:=h.mcell;have hc:=hb.cell;have ok:=h.ok;unfold DH
 cases hl:(l nm).isSome with
 |true=>
  simp only[if_true];rw[hl]at fl;have HF:=G hF;have HMv:=G (fun W (hg:w.grownBy W (some lb))=>h.mv (.of_grown (S:=fun k=>k=lb) hg (fun k e=>by injection e with e;exact e.symm)) (fun k hk e=>by have:=hfl.2;omega));clear h hF hb ok;obtain⟨g,bf,bi,ba,lo,hi,rb,fv,rv,al,mvb⟩:=X;simp only[MX.p,dJ,gG]at*;generalize (l nm).getD 0=q at*;go_enter func165,ntmps165;go_wp2_with (at_mapUpdate;refine cB B5 rfl _ _ _ rfl HF.out.m rfl (by unfold maxLen;omega) rfl _ rfl ?_;intro w8 hm8 hg8;have HG:=G hg8;have HF8:=G (HF.out.upd hv hm8 hg8);clear hm8 hg8);exact bodyPost_ret (results_none rfl _ _ _) rfl ⟨rfl, .of_grown HG.out (fun k e=>by injection e with e;exact .inl e.symm),HMv.out _ HG.out,HF8.out⟩
 |false=>
  simp only[aN,if_false];rw[hl]at fl;obtain⟨L,i1,i2⟩:=h.i;have HI:=G i1;have HS:=G (fun W (hm:bM W X.bi (L.upd nm (.int .i32 v))) (hg:w.grownBy W (some X.bi))=>h.setI hv i2 hm hg);have HF:=G (fun W (hg:w.grownBy W (some X.bi))=>hF.mv (.of_grown (S:=fun k=>k=X.bi) hg (fun k e=>by injection e with e;exact e.symm)) (fun e=>by have:=ok.i;have:=hfl.1;simp only[MX.S]at*;omega) (fun e=>by have:=ok.i;have:=hfl.2;simp only[MX.S]at*;omega));clear h hF hb ok i1 i2;obtain⟨g,bf,bi,ba,lo,hi,rb,fv,rv,al,mvb⟩:=X;simp only[MX.p,dJ,gG]at*;generalize (l nm).getD 0=q at*;go_enter func165,ntmps165;go_wp2_with (at_mapUpdate;refine cB B5 rfl _ _ _ rfl HI.out rfl (by unfold maxLen;omega) rfl _ rfl ?_;intro w8 hm8 hg8;have HG:=G hg8;have HS8:=G (HS.out _ hm8 hg8);clear hm8 hg8);exact bodyPost_end (results_none rfl _ _ _) rfl ⟨rfl, .of_grown HG.out (fun k e=>by injection e with e;exact .inr e.symm),HS8.out,HF.out _ HG.out⟩
end
section
open Go.RowKit
structure DQ (w:World) (pb fb lb:Nat) (P:Nat->Prop) (l:Lo) (ret:Option Int) (cs:Array Value) (bd el:List St) (A2 A3:Option Addr) (c2 c3:Nat) (W:World):Prop where
 gr:w.grownBy W (some lb)
 fr:FR fb lb l ret W
 bk:aL W pb 72 cs
 rb:cR W P (.slice A2 bd.length c2) bd
 rl:cR W P (.slice A3 el.length c3) el
 hP: ∀b,P b->b≠lb
 ne:lb≠pb
section
variable {w W W':World} {pb fb lb:Nat} {P:Nat->Prop} {l l':Lo} {ret:Option Int} {cs:Array Value} {bd el:List St} {A2 A3:Option Addr} {c2 c3:Nat}
theorem DQ.ext (h:DQ w pb fb lb P l ret cs bd el A2 A3 c2 c3 W) (he:aq W W'):DQ w pb fb lb P l ret cs bd el A2 A3 c2 c3 W':=
 ⟨h.gr.trans (he.grownBy _),h.fr.ext he,h.bk.ext he,h.rb.keep (.of_ext he) (fun b hb _=>hb),h.rl.keep (.of_ext he) (fun b hb _=>hb),h.hP,h.ne⟩
theorem DQ.grown (h:DQ w pb fb lb P l ret cs bd el A2 A3 c2 c3 W) (hg:W.grownBy W' (some lb)) (hc:FR fb lb l' ret W'):DQ w pb fb lb P l' ret cs bd el A2 A3 c2 c3 W':=by
 have hk:cC P W W':= .of_grown hg (fun b hb e=>h.hP b hb (by injection e));exact⟨h.gr.trans hg,hc,h.bk.grown hg (fun e=>h.ne (by injection e with e;exact e.symm)),h.rb.keep hk (fun b hb _=>hb),h.rl.keep hk (fun b hb _=>hb),h.hP,h.ne⟩
end
theorem vS {l:Lo} {xs:List St} {j:Nat} (h:j<xs.length):gm l (xs.drop j)=gm (vR l xs[j]) (xs.drop (j+1)):=by
 rw[ay h,gm]
def Ez (fb lb:Nat) (l:Lo) (ret:Option Int) (w:World) (e:Ending) (w':World):Prop:=e= .returned (.tuple #[])/\w.grownBy w' (some lb)/\FR fb lb l ret w'
def Du (xs:List St):Prop:= ∀(g fb lb:Nat) (l:Lo) (ret:Option Int) (P:Nat->Prop) (w:World) (A:Option Addr) (n c:Nat),FR fb lb l ret w->cR w P (.slice A n c) xs->(∀b,P b->b≠lb)->
 Calls prog 85 #[.pointer (some ⟨g,0,none⟩), .pointer (some ⟨fb,0,none⟩), .slice A n c] w (Ez fb lb (gm l xs) ret w)
theorem rE (xs:List St) (hl:xs.length<=1073741824) (hnmx: ∀s∈xs,s.nm.length<=1073741824) (hIH: ∀s∈xs,Du s.body/\Du s.els):Du xs:=by
 intro g fb lb l ret P w A n c hK hR hP;obtain⟨A',c',hv,hf⟩:=hR.form;injection hv with hv1 hv2 hv3;subst hv1 hv2 hv3;have HR:=G hR;have HI:=G hIH;have HNM:=G hnmx;have HK0:=G hK;obtain⟨N,hN⟩: ∃N,xs.length=N:=⟨_,rfl⟩
 have HN:=G hN;rw[hN]at HR hl;obtain⟨Rv,hRv⟩: ∃R,gm l xs=R:=⟨_,rfl⟩
 have HQ0:=G (show gm l (xs.drop 0)=Rv from hRv);have HX0:=G (World.grownBy.refl w (some lb));clear hR hf hIH hK hnmx;rw[hN,hRv];clear hN hRv;go_enter func85,ntmps85;go_wp2_with fail
 go_loopw [10] (fun vi wr=> ∃(j:Nat) (lj:Lo),vi= .int .i64 (j:Int)/\j<=N/\Hid (gm lj (xs.drop j)=Rv)/\Hid (w.grownBy wr (some lb))/\Hid (FR fb lb lj ret wr)) (fun vi _=>N-(intOf vi).toNat)
 case atStart=>exact⟨0,l,rfl,aG _,HQ0,HX0,HK0⟩
 case round=>
  obtain⟨j,lj,rfl,hj,HQR,HX,HKj⟩:=hrel;by_cases hlt:j<N
  ·have hlt':(j:Int)<N:=by omega
   have hjl:j<xs.length:=by have:=HN.out;omega
   obtain⟨b,o,e,bv,lv,rfl,hb,hPb,h0,h1,h2,h3,h4,hRe,hRb,hRl⟩:=HR.out.at_ j hjl;have hS:=vS (l:=lj) hjl;have hnm:=HNM.out _ (au hjl);have hII:=HI.out _ (au hjl);obtain⟨y,hy⟩: ∃y,xs[j]=y:=⟨_,rfl⟩
   rw[hy]at h0 h1 hRe hRb hRl hS hnm hII;clear hy;obtain⟨k,nm,ex,bd,el⟩:=y;simp only[St.k,St.nm,St.ex,St.body,St.els]at h0 h1 hRe hRb hRl hnm hII;have hKP:cC P w wr:= .of_grown HX.out (fun b hb e=>hP b hb (by injection e));have e0:=(hKP.cell _ hPb hb).trans h0;have e1:=(hKP.cell _ hPb hb).trans h1;have e2:=(hKP.cell _ hPb hb).trans h2;have e3:=(hKP.cell _ hPb hb).trans h3;have e4:=(hKP.cell _ hPb hb).trans h4;obtain⟨A1,c1,rfl,_⟩:=hRe.form;obtain⟨A2,c2,rfl,_⟩:=hRb.form;obtain⟨A3,c3,rfl,_⟩:=hRl.form;have hAl:=O wr (.cells #[.int .i64 k, .string (ai nm), .slice A1 ex.length c1, .slice A2 bd.length c2, .slice A3 el.length c3] 72)
   have HQ:=G (show DQ w wr.heap.size fb lb P lj ret #[.int .i64 k, .string (ai nm), .slice A1 ex.length c1, .slice A2 bd.length c2, .slice A3 el.length c3] bd el A2 A3 c2 c3 (wr.alloc (.cells #[.int .i64 k, .string (ai nm), .slice A1 ex.length c1, .slice A2 bd.length c2, .slice A3 el.length c3] 72))from
    ⟨HX.out.trans (hAl.grownBy _),HKj.out.ext hAl,an wr _ _,(hRb.keep hKP (Q:=P) (fun b hb _=>hb)).keep (.of_ext hAl) (fun b hb _=>hb),(hRl.keep hKP (Q:=P) (fun b hb _=>hb)).keep (.of_ext hAl) (fun b hb _=>hb),hP,eH HKj.out.m.lt⟩)
   have HB1:=G hII.1;have HL1:=G hII.2;clear h0 h1 h2 h3 h4 hRe hRb hRl hII hAl hKP HR HI HNM;rw[vR]at hS;by_cases hk1:k=1
   ·subst hk1;rw[if_pos rfl]at hS;obtain⟨l1,hl1⟩: ∃x,lj.upd nm 0=x:=⟨_,rfl⟩
    rw[hl1]at hS;have HF:=G (show gm (gm (gm l1 bd) el) (xs.drop (j+1))=Rv from hS.symm.trans HQR.out);go_wp2_with fail;refine az 6 1 [] mixed (by kernel_rfl) trivial ?_;repeat (refine sx ?_ (fun w1 hU=> ?_) ?_;rotate_left;(focus have f0:=(HQ.out.ext hU.un).bk.cell;have fk:=(HQ.out.ext hU.un).fr.blk.cell;clear hU;go_simp<;>with_reducible rfl);simp only[aY,aX,aW,aV,aU])
    intro w7 hw7 _;simp only[ac,ap];replace HQ:=G (HQ.out.ext hw7.un);clear hw7;have HT1:True:=trivial;go_wp2_with (first|(at_mapUpdate;refine cB B5 rfl _ _ _ rfl HQ.out.fr.m rfl (by unfold maxLen;omega) rfl _ rfl ?_;intro w8 hm8 hg8;replace HQ:=G (HQ.out.grown hg8 (HQ.out.fr.upd (by decide) hm8 hg8));rw[hl1]at HQ;clear hm8 hg8;have f0:=HQ.out.bk.cell)|(go_at_call 85;clear HT1;refine(HB1.out g fb lb l1 ret P _ A2 _ c2 HQ.out.fr HQ.out.rb hP).mono ?_;rintro e wx ⟨rfl,hg,hf⟩;replace HQ:=G (HQ.out.grown hg hf);clear hg hf;(try clear f0);have f0:=HQ.out.bk.cell)|(go_at_call 85;refine(HL1.out g fb lb (gm l1 bd) ret P _ A3 _ c3 HQ.out.fr HQ.out.rl hP).mono ?_;rintro e wx ⟨rfl,hg,hf⟩;replace HQ:=G (HQ.out.grown hg hf);clear hg hf));go_roundw
    case rel=>exact⟨j+1,_,by go_num,by omega,HF,G HQ.out.gr,G HQ.out.fr⟩
    case measure=>simp[intOf];omega
   ·rw[if_neg hk1]at hS;have HF:=G (show gm (gm (gm lj bd) el) (xs.drop (j+1))=Rv from hS.symm.trans HQR.out);have n1:=beq_eq_false_iff_ne.2 hk1;have HT1:True:=trivial;go_wp2_with (first|(go_at_call 85;clear HT1;refine(HB1.out g fb lb lj ret P _ A2 _ c2 HQ.out.fr HQ.out.rb hP).mono ?_;rintro e wx ⟨rfl,hg,hf⟩;replace HQ:=G (HQ.out.grown hg hf);clear hg hf;(try clear f0);have f0:=HQ.out.bk.cell)|(go_at_call 85;refine(HL1.out g fb lb (gm lj bd) ret P _ A3 _ c3 HQ.out.fr HQ.out.rl hP).mono ?_;rintro e wx ⟨rfl,hg,hf⟩;replace HQ:=G (HQ.out.grown hg hf);clear hg hf));go_roundw
    case rel=>exact⟨j+1,_,by go_num,by omega,HF,G HQ.out.gr,G HQ.out.fr⟩
    case measure=>simp[intOf];omega
  ·have hlt': ¬(j:Int)<N:=by omega
   have HFn:=G (show lj=Rv by
    have:=HQR.out;rw[aF (by have:=HN.out;omega),gm]at this
    exact this)
   go_wp2_with fail;exact bodyPost_end (results_none rfl _ _ _) rfl ⟨rfl,HX.out,by rw[<-HFn.out];exact HKj.out⟩
theorem lu: ∀(m:Nat) (xs:List St),fq xs<=m->fq xs<=1073741824->Du xs
 |0,xs,h,hw=>rE xs (by have:=dz xs;omega) (fun s hs=>by have:=bS hs;have:=s.wt_eq;omega) (fun s hs=>by have:=bS hs;have:=s.wt_eq;omega)
 |m+1,xs,h,hw=>rE xs (by have:=dz xs;omega) (fun s hs=>by have:=bS hs;have:=s.wt_eq;omega)
   (fun s hs=>⟨lu m s.body (by have:=bS hs;have:=s.wt_eq;omega) (by have:=bS hs;have:=s.wt_eq;omega),lu m s.els (by have:=bS hs;have:=s.wt_eq;omega) (by have:=bS hs;have:=s.wt_eq;omega)⟩)
end
section
section
variable (R:Rs) (k:Nat)
variable {R k}
variable (hk:k<=R.length)
include hk
end
end
section
open Go.RowKit
def tw (X:MX) (C:Cx) (w:World) (r:ER Int) (e:Ending) (w':World):Prop:=Mv X.S w w'/\match r with
 | .ok (v,σ)=>e= .returned (.int .i32 v)/\MA X C σ w'
 | .error o=>e=iy o.kind/\gC X o w'
abbrev MX.T (X:MX) (fb lb:Nat) (k:Nat):Prop:=X.S k\/k=fb\/k=lb
def yP (X:MX) (C:Cx) (fb lb:Nat) (w:World) (r:lx) (e:Ending) (w':World):Prop:=Mv (X.T fb lb) w w'/\match r with
 | .ok (p,σ)=>e= .returned (.tuple #[])/\MA X C σ w'/\FR fb lb p.2 p.1 w'
 | .error o=>e=iy o.kind/\gC X o w'
def AS (X:MX) (C:Cx) (w:World) (r:ER (Int×List UInt8)) (e:Ending) (w':World):Prop:=w.grownBy w' (some X.g)/\match r with
 | .ok (p,σ)=>MA X C σ w'/\ ∃da dc,e= .returned (.agg #[.int .i64 p.1, .slice da p.2.length dc])/\Sl w' da dc p.2/\ ∀b o,da=some ⟨b,o,none⟩->p.2≠ []->X.P b
 | .error o=>e=iy o.kind/\gC X o w'
structure FI (X:MX) (fb lb:Nat) (l:Lo) (ret:Option Int) (w:World):Prop where
 fr:FR fb lb l ret w
 f:X.hi<=fb
 l:X.hi<=lb
def m7 (X:MX) (C:Cx) (n:Nat) (x:Ex):Prop:= ∀(σ:Ms) (l:Lo) (fb lb:Nat) (w:World) (A:Option Addr) (c:Nat),MA X C σ w->FI X fb lb l none w->2*σ.left<=n->cE w X.P (.slice A x.args.length c) x.args->
 Calls prog 164 #[X.p, .pointer (some ⟨fb,0,none⟩), .agg #[.int .i64 x.k, .string (ai x.op), .string (ai x.nm), .string (ai x.tx), .int .i64 x.v, .slice A x.args.length c]] w (tw X C w (ev C n σ l x))
def Es (X:MX) (C:Cx) (n:Nat) (x:St):Prop:= ∀(σ:Ms) (l:Lo) (fb lb:Nat) (w:World) (A1 A2 A3:Option Addr) (c1 c2 c3:Nat),MA X C σ w->FI X fb lb l none w->2*σ.left<=n->
 cE w X.P (.slice A1 x.ex.length c1) x.ex->cR w X.P (.slice A2 x.body.length c2) x.body->cR w X.P (.slice A3 x.els.length c3) x.els->
 Calls prog 130 #[X.p, .pointer (some ⟨fb,0,none⟩), .agg #[.int .i64 x.k, .string (ai x.nm), .slice A1 x.ex.length c1, .slice A2 x.body.length c2, .slice A3 x.els.length c3]] w (yP X C fb lb w (st C n σ l x))
def AT (X:MX) (C:Cx) (n:Nat) (xs:List St):Prop:= ∀(σ:Ms) (l:Lo) (fb lb:Nat) (w:World) (A:Option Addr) (c:Nat),MA X C σ w->FI X fb lb l none w->2*σ.left<=n->cR w X.P (.slice A xs.length c) xs->
 Calls prog 86 #[X.p, .pointer (some ⟨fb,0,none⟩), .slice A xs.length c] w (yP X C fb lb w (mh (fun s l y=>st C n s l y) σ l xs))
def DG (X:MX) (C:Cx) (n:Nat):Prop:= ∀x:Ex,yW C.fn x=true->x.wt<=1073741824->m7 X C n x
def EI (X:MX) (C:Cx) (n:Nat):Prop:= ∀x:St,BD C.fn x=true->x.wt<=1073741824->Es X C n x
def Et (X:MX) (C:Cx) (n:Nat):Prop:= ∀xs:List St,nQ C.fn xs=true->fq xs<=1073741824->AT X C n xs
structure Cv (C:Cx):Prop where
 safe: ∀s,nQ C.fn (C.fn s).body=true
 wt: ∀s,fq (C.fn s).body<=6000000
 ps: ∀s,(C.fn s).ps.length<=6000000
 pn: ∀s,∀q∈(C.fn s).ps,q.length<=1073741824
section
variable {X:MX} {C:Cx} {σ σ':Ms} {w w':World} {fb lb:Nat} {l:Lo} {ret:Option Int}
theorem MX.S_lt {k:Nat} (h:X.hi<=k): ¬X.S k:=fun e=>by simp only[MX.S]at e;omega
theorem MX.S_P {k:Nat} (h:X.P k): ¬X.S k:=fun e=>by simp only[MX.S,MX.P]at*;omega
theorem FI.mv {S:Nat->Prop} (h:FI X fb lb l ret w) (hM:Mv S w w') (hS: ∀k,X.hi<=k->k<w.heap.size-> ¬S k):FI X fb lb l ret w':=⟨h.fr.mv hM (hS _ h.f h.fr.blk.lt) (hS _ h.l h.fr.m.lt),h.f,h.l⟩
theorem FI.ms (h:FI X fb lb l ret w) (hM:Mv X.S w w'):FI X fb lb l ret w':=h.mv hM fun k hk _=>MX.S_lt hk
theorem FI.ext (h:FI X fb lb l ret w) (he:aq w w'):FI X fb lb l ret w':=⟨h.fr.ext he,h.f,h.l⟩
theorem cE.ms {v:Value} {xs:List Ex} (h:cE w X.P v xs) (hM:Mv X.S w w'):cE w' X.P v xs:=h.keep (hM.keepP fun k hk _=>MX.S_P hk) fun b hb _=>hb
theorem cE.xt {v:Value} {xs:List Ex} {P:Nat->Prop} (h:cE w P v xs) (hM:aq w w'):cE w' P v xs:=h.keep (.of_ext hM) fun b hb _=>hb
theorem cR.xt {v:Value} {xs:List St} {P:Nat->Prop} (h:cR w P v xs) (hM:aq w w'):cR w' P v xs:=h.keep (.of_ext hM) fun b hb _=>hb
theorem MX.T_P (hf:X.hi<=fb) (hl:X.hi<=lb) (ok:X.Ok) {k:Nat} (h:X.P k): ¬X.T fb lb k:=fun e=>by
 have:=ok.g;simp only[MX.T,MX.S,MX.P]at*;omega
theorem cE.mt {v:Value} {xs:List Ex} (h:cE w X.P v xs) (hF:FI X fb lb l ret w) (ok:X.Ok) (hM:Mv (X.T fb lb) w w'):cE w' X.P v xs:=h.keep (hM.keepP fun k hk _=>MX.T_P hF.f hF.l ok hk) fun b hb _=>hb
theorem cR.mt {v:Value} {xs:List St} (h:cR w X.P v xs) (hF:FI X fb lb l ret w) (ok:X.Ok) (hM:Mv (X.T fb lb) w w'):cR w' X.P v xs:=h.keep (hM.keepP fun k hk _=>MX.T_P hF.f hF.l ok hk) fun b hb _=>hb
theorem Mv.ms_g (ok:X.Ok) (h:w.grownBy w' (some X.g)):Mv X.S w w':= .of_grown h fun k e=>by injection e with e;subst e;exact ok.g
theorem MA.putA {nm:List UInt8} {a:List UInt8} (h:MA X C σ w) (hn:σ.arrs nm≠ []) (hl:a.length=(σ.arrs nm).length) (hg:w.grownBy w' (some (X.rb nm))) (hb:aL w' (X.rb nm) 5 (y6 a)):MA X C (σ.setA nm a) w':=by
 have ok:=h.ok;obtain⟨r1,r2,r3,r4⟩:=h.row nm hn;obtain⟨lf,q1,q2,q3,hm⟩:=h.blk;obtain⟨L1,f1,f2⟩:=h.f;obtain⟨L2,i1,i2⟩:=h.i;obtain⟨L3,a1,a2⟩:=h.a;have hne:a≠ []:=fun e=>hn (aJ (by rw[<-hl,e];rfl));have ea: ∀s,(σ.setA nm a).arrs s=if s=nm then a else σ.arrs s:=fun _=>rfl;have hk:cC X.P w w':= .of_grown hg (fun b hb e=>by injection e with e;subst e;simp only[MX.S,MX.P]at*;omega);refine⟨ok,⟨lf,q1,q2,q3,hm.grown hg (my (ff r3))⟩,⟨L1,f1.grown hg (my fun e=>f8 r1 (e▸f1)),f2⟩,fun s=> ?_,⟨L2,i1.grown hg (my fun e=>f8 r1 (e▸i1)),i2⟩,⟨L3,a1.grown hg (my fun e=>f8 r1 (e▸a1)),fun s=> ?_⟩,fun s hs=> ?_,fun s t hs ht=> ?_,h.r.keep hk,h.used,h.stk,h.rng,h.t.grown hg (fun e=> ?_),h.t0,aZ h.top hg.size,fun s=> ?_⟩
 ·obtain⟨pv,bv,e,p1,p2⟩:=h.fr s;exact⟨pv,bv,e,p1.keep hk (fun b hb _=>hb),p2.keep hk (fun b hb _=>hb)⟩
 ·rw[a2 s];unfold oD;rw[ea];by_cases e:s=nm
  ·subst e;rw[if_pos rfl,if_neg hn,if_neg hne,hl]
  ·rw[if_neg e]
 ·rw[ea]at hs⊢;by_cases e:s=nm
  ·subst e;rw[if_pos rfl];exact⟨hb,r2,r3,hl▸r4⟩
  ·rw[if_neg e]at hs⊢;obtain⟨p1,p2,p3,p4⟩:=h.row s hs;exact⟨p1.grown hg (my fun e2=>e (h.inj s nm hs hn e2)),p2,p3,p4⟩
 ·have hs': ∀s,(σ.setA nm a).arrs s≠ []->σ.arrs s≠ []:=fun s hs=>by
   rw[ea]at hs;by_cases e:s=nm
   ·subst e;exact hn
   ·rwa [if_neg e]at hs
  exact h.inj s t (hs' s hs) (hs' t ht)
 ·have q:=h.t0;rw[<-e]at q;simp only[MX.S,MX.P]at*;omega
 ·rw[ea];by_cases e:s=nm
  ·subst e;rw[if_pos rfl,hl];exact h.len s
  ·rw[if_neg e];exact h.len s
theorem MA.setA1 {nm:List UInt8} {i:Nat} {b:UInt8} (h:MA X C σ w) (hi:i<(σ.arrs nm).length):MA X C (σ.setA nm ((σ.arrs nm).set i b)) (w.setCell ⟨X.rb nm,i,none⟩ (.int .u8 (b.toNat:Int))):=by
 have hn:σ.arrs nm≠ []:=fun e=>by rw[e]at hi;simp at hi
 refine h.putA hn (by simp) (cd w _ i _) ?_;have e:y6 ((σ.arrs nm).set i b)=(y6 (σ.arrs nm)).setIfInBounds i (.int .u8 (b.toNat:Int)):=by
  apply jl;simp[y6,kr,r9,List.map_set]
 rw[e];exact(h.row nm hn).1.set i _
def qv (X:MX) (nm:List UInt8):Value:=if X.al nm=0 then .slice none 0 0 else .slice (some ⟨X.rb nm,0,none⟩) (X.al nm) (X.al nm)
theorem MA.arrE (h:MA X C σ w) (nm:List UInt8):oD X σ nm=qv X nm:=by
 have hl:=h.len nm;unfold oD qv;by_cases e:σ.arrs nm=[]
 ·rw[if_pos e,if_pos (by rw[<-hl,e];rfl)]
 ·rw[if_neg e,if_neg (fun e2=>e (aJ (by omega))),hl]
def Ew (X:MX) (w:World) (d:Dt) (v:Value):Prop:=match d with
 | .no=>v= .slice none 0 0
 | .txt t=> ∃A c,v= .slice A t.length c/\Sl w A c t/\ ∀b o,A=some ⟨b,o,none⟩->t≠ []->X.hi<=b
 | .arr nm=>v=qv X nm
theorem BC {g:Nat} {a:List UInt8} {t:TypeId} (h:aL w g t (y6 a)) (hm:a.length<=1073741824):Sl w (some ⟨g,0,none⟩) a.length a:=
 ⟨ah _,by unfold maxLen;omega,(fun h=>by cases h), .inr ⟨g,0,rfl,h.lt,fun i hi=>by rw[aD,h.cell];simp[y6,kr,r9,hi]⟩⟩
theorem Ew.sl {d:Dt} {v:Value} (hA:MA X C σ w) (h:Ew X w d v): ∃A c,v= .slice A (d.rd σ).length c/\Sl w A c (d.rd σ)/\ ∀b o,A=some ⟨b,o,none⟩->d.rd σ≠ []->b≠X.g:=by
 cases d with
 |no=>exact⟨none,0,h,me w,fun b o e=>by cases e⟩
 |txt t=>
  obtain⟨A,c,h1,h2,h3⟩:=h;exact⟨A,c,h1,h2,fun b o e hn=>by have:=h3 b o e hn;have:=hA.ok.g;simp only[MX.S]at*;omega⟩
 |arr nm=>
  have hl:=hA.len nm;have h:v=qv X nm:=h;unfold qv at h;show ∃A c,v= .slice A (σ.arrs nm).length c/\Sl w A c (σ.arrs nm)/\ ∀b o,A=some ⟨b,o,none⟩->σ.arrs nm≠ []->b≠X.g;by_cases e:σ.arrs nm=[]
  ·rw[if_pos (by rw[<-hl,e];rfl)]at h;rw[e];exact⟨none,0,h,me w,fun b o e=>by cases e⟩
  ·rw[if_neg (fun e2=>e (aJ (by omega))),<-hl]at h;obtain⟨r1,_,r3,r4⟩:=hA.row nm e;exact⟨_,_,h,BC r1 r4,fun b o e2 _=>by injection e2 with e2;injection e2 with e2;exact e2▸r3⟩
theorem MA.used1 (h:MA X C σ w) {lf:Int} (hb:aL w X.g 127 (dJ X lf σ)) (hl:lf.toNat=σ.left) (q2: -9223372036854775808<=lf) (q3:lf<=9223372036854775807) (hu:σ.used<C.R.length):MA X C {σ with used:=σ.used+1} (w.setCell ⟨X.g,12,none⟩ (.int .i64 ((σ.used:Int)+1))):=by
 refine h.reg (cd w X.g 12 _) lf hl q2 q3 ?_ rfl rfl (by show σ.used+1<=_;omega) h.stk;have e:(dJ X lf σ).setIfInBounds 12 (.int .i64 ((σ.used:Int)+1))=dJ X lf {σ with used:=σ.used+1}:=rfl;rw[<-e];exact hb.set 12 _
theorem MA.stk1 (h:MA X C σ w) {lf:Int} (hb:aL w X.g 127 (dJ X lf σ)) (hl:lf.toNat=σ.left) (q2: -9223372036854775808<=lf) (q3:lf<=9223372036854775807) (k:Nat) (hk:k<=1024):MA X C {σ with stk:=k} (w.setCell ⟨X.g,5,none⟩ (.int .i64 (k:Int))):=by
 refine h.reg (cd w X.g 5 _) lf hl q2 q3 ?_ rfl rfl h.used hk;have e:(dJ X lf σ).setIfInBounds 5 (.int .i64 (k:Int))=dJ X lf {σ with stk:=k}:=rfl;rw[<-e];exact hb.set 5 _
theorem MA.mcl (h:MA X C σ w): ∃lf:Int,lf.toNat=σ.left/\ -9223372036854775808<=lf/\lf<=9223372036854775807/\aL w X.g 127 (dJ X lf σ):=h.blk
theorem FR.new (w:World):FR (w.heap.size+1) w.heap.size (fun _=>none) none ((w.alloc (.map #[] 0)).alloc (.cells (gG w.heap.size none) 182)):=by
 have e2:=O (w.alloc (.map #[] 0)) (.cells (gG w.heap.size none) 182);have b:=an (w.alloc (.map #[] 0)) 182 (gG w.heap.size none);rw[World.size_alloc]at b;exact⟨b,((gp w).ext e2).congr fun s=>rfl,Bh⟩
end
theorem jc (r:ER Int):(∃v s,r= .ok (v,s))\/ ∃o,r= .error o:=by
 rcases r with o|⟨v,s⟩
 ·exact .inr ⟨o,rfl⟩
 ·exact .inl ⟨v,s,rfl⟩
theorem tj {E:Ms->Ex->ER Int} {ls:List UInt8} {ys:List Ex} {vs:List Int} {la:Int} {d:Dt} {s:Ms} {j:Nat} (h1:j<ls.length) (h2:j<ys.length):dW E (ls.drop j) (ys.drop j) vs la d s=
  if ls[j]=105 then(E s ys[j]).then fun v s=>dW E (ls.drop (j+1)) (ys.drop (j+1)) (vs++[v]) v d s else if ys[j].k=2 then dW E (ls.drop (j+1)) (ys.drop (j+1)) vs la (.txt ys[j].tx) s else dW E (ls.drop (j+1)) (ys.drop (j+1)) vs la (.arr ys[j].nm) s:=by
 rw[ay h1,ay h2,dW]
theorem v8 {E:Ms->Ex->ER Int} {ls:List UInt8} {ys:List Ex} {vs:List Int} {la:Int} {d:Dt} {s:Ms} {j:Nat} (h1:ls.length<=j):dW E (ls.drop j) (ys.drop j) vs la d s= .ok ((vs,la,d),s):=by
 rw[aF h1,dW];intro _ _ _ _ e
 cases e
theorem w_ {fn:List UInt8->Fc}: ∀(ls:List UInt8) (a:List Ex),BE fn ls a=true-> ∀j (h:j<a.length) (h':j<ls.length),ls[j]=105->yW fn a[j]=true
 |ls,[],_,j,h,_,_=>by simp at h
 | [],y::r,_,j,_,h',_=>by simp at h'
 |c::ls,y::r,hs,0,_,_,hc=>by
  rw[BE,ak,bF]at hs;rcases hs.1 with h|h
  ·simp at hc;simp[hc]at h
  ·exact h
 |c::ls,y::r,hs,j+1,h,h',hc=>by
  rw[BE,ak]at hs;exact w_ ls r hs.2 j (by simpa using h) (by simpa using h') (by simpa using hc)
theorem p8 {fn:List UInt8->Fc} {a:List Ex} (h:wm fn a=true): ∀y∈a,yW fn y=true:=by rw[tN]at h;exact fun y hy=>List.all_eq_true.1 h y hy
theorem zr {fn:List UInt8->Fc} {a:List St} (h:nQ fn a=true): ∀y∈a,BD fn y=true:=by rw[qO]at h;exact fun y hy=>List.all_eq_true.1 h y hy
theorem yg {E:Ms->Ex->ER Int} {vs:List Int} {s:Ms} {ys:List Ex} {j:Nat} (h:j<ys.length):uk E vs s (ys.drop j)=(E s ys[j]).then fun v s=>uk E (vs++[v]) s (ys.drop (j+1)):=by
 rw[ay h,uk]
theorem wW {S:Ms->Lo->St->lx} {s:Ms} {l:Lo} {ys:List St} {j:Nat} (h:j<ys.length):mh S s l (ys.drop j)=(S s l ys[j]).then fun p s=>match p.1 with
  |some v=> .ok ((some v,p.2),s)
  |none=>mh S s p.2 (ys.drop (j+1)):=by
 rw[ay h,mh];rfl
theorem xK {l:Lo} {ps:List (List UInt8)} {vs:List Int} {j:Nat} (h:j<ps.length) (h':j<vs.length):rZ l (ps.drop j) (vs.drop j)=rZ (l.upd ps[j] vs[j]) (ps.drop (j+1)) (vs.drop (j+1)):=by
 rw[ay h,ay h',rZ]
theorem Ah {l:Lo} {ps:List (List UInt8)} {vs:List Int} {j:Nat} (h:ps.length<=j):rZ l (ps.drop j) (vs.drop j)=l:=by
 rw[aF h];unfold rZ;rfl
def aC (vs:List Int):Array Value:= #[.int .i64 (vs.getD 0 0), .int .i64 (vs.getD 1 0), .int .i64 (vs.getD 2 0)]
theorem AQ: ∀(vs:List Int) (v:Int),vs.length<3->(aC vs).setIfInBounds vs.length (.int .i64 v)=aC (vs++[v])
 | [],v,_=>rfl
 | [a],v,_=>rfl
 | [a,b],v,_=>rfl
 | _::_::_::_,v,h=>by simp at h;omega
def pu (vs:List Int):List Value:=vs.map (.int .i32)
def jZ (w:World) (base:Nat) (v:Value) (vs:List Int):Prop:=w.ownsRow base 21 1 v vs.length (pu vs)
theorem Ee:nf prog 179 21 1 4 (.int .i32 0):=⟨underlying179,by kernel_rfl,by rfl,by decide⟩
def yR (w:World) (P:Nat->Prop) (v:Value) (vs:List Int):Prop:=
 ∃A c,v= .slice A vs.length c/\(vs=[]\/vs.length<=c/\c<=maxLen/\ ∃b o,A=some ⟨b,o,none⟩/\P b/\b<w.heap.size/\ ∀i,(h:i<vs.length)->w.cell? ⟨b,o+i,none⟩=some (.int .i32 vs[i]))
section
variable {w w':World} {base:Nat} {v:Value} {vs:List Int}
theorem yR.nil_ (w:World) (P:Nat->Prop):yR w P (.slice none 0 0) []:=⟨none,0,rfl, .inl rfl⟩
theorem yR.keep {P Q:Nat->Prop} (h:yR w P v vs) (hk:cC P w w') (hQ: ∀b,P b->b<w.heap.size->Q b):yR w' Q v vs:=by
 obtain⟨A,c,rfl,h⟩:=h;exact⟨A,c,rfl,h.imp id fun⟨h1,h2,b,o,ha,hP,hb,hc⟩=>⟨h1,h2,b,o,ha,hQ b hP hb,aA hb hk.size,fun i hi=>(hk.cell _ hP hb).trans (hc i hi)⟩⟩
theorem jZ.nil_ (w:World) (base:Nat):jZ w base (.slice none 0 0) []:=World.ownsRow_nil w base 21 1
theorem jZ.rd (h:jZ w base v vs):yR w (fun b=>base<=b) v vs:=by
 rcases h.2 with⟨rfl,h0⟩|⟨g,cap,cur,rfl,hb,hg,hnc,hcm,hcs,ht⟩
 ·have:vs=[]:=aJ h0;subst this;exact .nil_ _ _
 ·refine⟨_,cap,rfl, .inr ⟨hnc,hcm,g,0,rfl,hb,(Array.getElem?_eq_some_iff.1 hg).1,fun i hi=> ?_⟩⟩;rw[aD,cell_of_row w g i cur 21 (0,0) hg];have h3:(pu vs)[i]? =some (.int .i32 vs[i]):=by simp[pu,hi]
  rw[<-ht,cH]at h3;rw[if_pos (by omega)]at h3;simpa using h3
theorem jZ.mv {S:Nat->Prop} (h:jZ w base v vs) (hM:Mv S w w') (hS: ∀k,base<=k->k<w.heap.size-> ¬S k):jZ w' base v vs:=i7 h fun b h1 h2 _=>hM.block b h2 (hS b h1 h2)
theorem jZ.ext (h:jZ w base v vs) (hE:aq w w'):jZ w' base v vs:=i7 h fun b h1 h2 _=>hE.obj h2
theorem jZ.snoc {A n cap:Nat} {x:Int} (hl:vs.length=n) (hn:w'.ownsRow base 21 1 (.slice (some ⟨A,0,none⟩) (n+1) cap) (n+1) (pu vs++[.int .i32 x])):jZ w' base (.slice (some ⟨A,0,none⟩) (n+1) cap) (vs++[x]):=by
 subst hl;unfold jZ pu;rw[aa,gD];exact hn
end
section
variable {P:Program} {ops:Array Oper} {Q:Exit->Act->World->Prop}
theorem d7 (S:Nat->Prop) {id:Nat} {a:Act} {w:World} (m f:Nat) (l:List uw) (x:Nat) (hm:P.follows .mixedOrders=true) (hok:BS ops m a.tmps.size=true)
  (hs:iZ aq l) (hx:lI x (Mv S) l)
  (h:dY P Q ops f (ef l) (some x) (fun _=>false) aq (Mv S) w.drew (fun a Φ=> ∀w',Mv S w w'->(∀p∈Φ,p.2 w')->wpList P ops Q (ops.toList.drop m) a w') (ops.toList.take m) 0 a []):(Code.region id ops true).wp P Q a w:=by
 refine eV m f (ef l) (some x) aq (Mv S) hm hok aR (fun _ _ _=>Mv.trans) (fun _ _ h=> .of_ext h) (fun _ _ _=>mM) hs.out hx.out ?_;exact dY.fin (fun a Φ h w' h1 h2=>h w' h1.un h2) _ _ _ _ h
end
theorem ec {X:MX} {C:Cx} {w w':World} {r:ER Int} {v:Int} {σ:Ms} (hM:Mv X.S w w') (h:r= .ok (v,σ)) (hA:MA X C σ w'):tw X C w r (.returned (.int .i32 v)) w':=by
 subst h;exact⟨hM,rfl,hA⟩
theorem cZ {X:MX} {C:Cx} {w w':World} {r:ER Int} {o:Oc} {k:Int} (hM:Mv X.S w w') (h:r= .error o) (hk:o.kind=k) (hH:gC X o w'):tw X C w r (.panicked [{v:= .iface 129 (.agg #[.int .i64 k]),recovered:=false}]) w':=by
 subst h;subst hk;exact⟨hM,rfl,hH⟩
theorem tw.ok_ {X:MX} {C:Cx} {w w':World} {e:Ending} {v:Int} {σ:Ms} (h:tw X C w (.ok (v,σ)) e w'):Mv X.S w w'/\e= .returned (.int .i32 v)/\MA X C σ w':=h
theorem tw.err_ {X:MX} {C:Cx} {w w':World} {e:Ending} {o:Oc} (h:tw X C w (.error o) e w'):Mv X.S w w'/\e= .panicked [{v:= .iface 129 (.agg #[.int .i64 o.kind]),recovered:=false}]/\gC X o w':=h
theorem gE {X:MX} {C:Cx} {fb lb:Nat} {w w':World} {r:lx} {ret:Option Int} {l:Lo} {σ:Ms} (hM:Mv (X.T fb lb) w w') (h:r= .ok ((ret,l),σ)) (hA:MA X C σ w') (hF:FR fb lb l ret w'):yP X C fb lb w r (.returned (.tuple #[])) w':=by
 subst h;exact⟨hM,rfl,hA,hF⟩
theorem cT {X:MX} {C:Cx} {fb lb:Nat} {w w':World} {r:lx} {o:Oc} {k:Int} (hM:Mv (X.T fb lb) w w') (h:r= .error o) (hk:o.kind=k) (hH:gC X o w'):yP X C fb lb w r (.panicked [{v:= .iface 129 (.agg #[.int .i64 k]),recovered:=false}]) w':=by
 subst h;subst hk;exact⟨hM,rfl,hH⟩
theorem yP.ok_ {X:MX} {C:Cx} {fb lb:Nat} {w w':World} {e:Ending} {p:Option Int×Lo} {σ:Ms} (h:yP X C fb lb w (.ok (p,σ)) e w'):Mv (X.T fb lb) w w'/\e= .returned (.tuple #[])/\MA X C σ w'/\FR fb lb p.2 p.1 w':=h
theorem yP.err_ {X:MX} {C:Cx} {fb lb:Nat} {w w':World} {e:Ending} {o:Oc} (h:yP X C fb lb w (.error o) e w'):Mv (X.T fb lb) w w'/\e= .panicked [{v:= .iface 129 (.agg #[.int .i64 o.kind]),recovered:=false}]/\gC X o w':=h
theorem ub {X:MX} {C:Cx} {σ:Ms} {w:World} (h:MA X C σ w) (hl:σ.left=0):Calls prog 162 #[X.p] w fun e w'=>e= .panicked [{v:= .iface 129 (.agg #[.int .i64 3]),recovered:=false}]/\Mv X.S w w'/\gC X σ.long w':=
 (pk X C σ w h).mono fun e w' q=>by
  obtain⟨hg,q⟩:=q;rw[if_pos hl]at q;exact⟨q.1, .ms_g h.ok hg,q.2⟩
theorem eR {X:MX} {C:Cx} {σ:Ms} {w:World} (h:MA X C σ w) (hl:σ.left≠0):Calls prog 162 #[X.p] w fun e w'=>e= .returned (.tuple #[])/\Mv X.S w w'/\MA X C σ.step w':=
 (pk X C σ w h).mono fun e w' q=>by
  obtain⟨hg,q⟩:=q;rw[if_neg hl]at q;exact⟨q.1, .ms_g h.ok hg,q.2⟩
structure EQ (X:MX) (C:Cx) (σ:Ms) (l:Lo) (fb lb:Nat) (w:World) (pb:Nat) (cs:Array Value) (v:Value) (xs:List Ex) (W:World):Prop where
 mv:Mv X.S w W
 ma:MA X C σ W
 fi:FI X fb lb l none W
 bk:aL W pb 70 cs
 re:cE W X.P v xs
 hp:X.hi<=pb
 hw:X.hi<=w.heap.size
section
variable {X:MX} {C:Cx} {σ σ':Ms} {l:Lo} {fb lb pb:Nat} {w W W':World} {cs:Array Value} {v:Value} {xs:List Ex}
theorem iU (hA:MA X C σ w) (hF:FI X fb lb l none w) (hR:cE w X.P v xs) (cs:Array Value):EQ X C σ l fb lb w w.heap.size cs v xs (w.alloc (.cells cs 70)):=
 ⟨.of_ext (O w _),hA.ext (O w _),hF.ext (O w _),an w _ _,hR.xt (O w _),hA.top,hA.top⟩
theorem EQ.nx (h:EQ X C σ l fb lb w pb cs v xs W) (hM:Mv X.S W W') (hA:MA X C σ' W'):EQ X C σ' l fb lb w pb cs v xs W':=
 ⟨h.mv.trans hM,hA,h.fi.ms hM,hM.blk h.bk (MX.S_lt h.hp),h.re.ms hM,h.hp,h.hw⟩
theorem EQ.ext (h:EQ X C σ l fb lb w pb cs v xs W) (hE:aq W W'):EQ X C σ l fb lb w pb cs v xs W':=h.nx (.of_ext hE) (h.ma.ext hE)
end
structure YC (w:World) (b o:Nat) (k:Int) (op nm tx:List UInt8) (v:Int) (B:Option Addr) (n d:Nat):Prop where
 c0:w.cell? ⟨b,o,none⟩=some (.int .i64 k)
 c1:w.cell? ⟨b,o+1,none⟩=some (.string (ai op))
 c2:w.cell? ⟨b,o+2,none⟩=some (.string (ai nm))
 c3:w.cell? ⟨b,o+3,none⟩=some (.string (ai tx))
 c4:w.cell? ⟨b,o+4,none⟩=some (.int .i64 v)
 c5:w.cell? ⟨b,o+5,none⟩=some (.slice B n d)
theorem YC.kp {w w':World} {P:Nat->Prop} {b o:Nat} {k:Int} {op nm tx:List UInt8} {v:Int} {B:Option Addr} {n d:Nat} (h:YC w b o k op nm tx v B n d) (hk:cC P w w') (hP:P b) (hb:b<w.heap.size):YC w' b o k op nm tx v B n d:=
 ⟨(hk.cell _ hP hb).trans h.c0,(hk.cell _ hP hb).trans h.c1,(hk.cell _ hP hb).trans h.c2,(hk.cell _ hP hb).trans h.c3,(hk.cell _ hP hb).trans h.c4,(hk.cell _ hP hb).trans h.c5⟩
theorem YC.ms {X:MX} {w w':World} {b o:Nat} {k:Int} {op nm tx:List UInt8} {v:Int} {B:Option Addr} {n d:Nat} (h:YC w b o k op nm tx v B n d) (hM:Mv X.S w w') (hP:X.P b) (hb:b<w.heap.size):YC w' b o k op nm tx v B n d:=
 h.kp (hM.keepP fun k hk _=>MX.S_P hk) hP hb
theorem cE.yc {w:World} {P:Nat->Prop} {A:Option Addr} {n c:Nat} {xs:List Ex} (h:cE w P (.slice A n c) xs) (i:Nat) (hi:i<xs.length):
  ∃b o B d,A=some ⟨b,o,none⟩/\b<w.heap.size/\P b/\YC w b (o+i*6) xs[i].k xs[i].op xs[i].nm xs[i].tx xs[i].v B xs[i].args.length d/\cE w P (.slice B xs[i].args.length d) xs[i].args:=by
 obtain⟨b,o,a,rfl,hb,hP,h0,h1,h2,h3,h4,h5,hR⟩:=h.at_ i hi;obtain⟨B,d,rfl,_⟩:=hR.form;exact⟨b,o,B,d,rfl,hb,hP,⟨h0,h1,h2,h3,h4,h5⟩,hR⟩
def tz (X:MX) (C:Cx) (n:Nat) (x:Ex):Prop:= ∀(σ:Ms) (l:Lo) (fb lb:Nat) (w:World) (A:Option Addr) (c:Nat),MA X C σ w->FI X fb lb l none w->σ.left≠0->2*σ.left<=n+1->cE w X.P (.slice A x.args.length c) x.args->
 Calls prog 164 #[X.p, .pointer (some ⟨fb,0,none⟩), .agg #[.int .i64 x.k, .string (ai x.op), .string (ai x.nm), .string (ai x.tx), .int .i64 x.v, .slice A x.args.length c]] w (tw X C w (ev C (n+1) σ l x))
end
section
open Go.RowKit
theorem uc (X:MX) (C:Cx) (n:Nat) (x:Ex) (σ:Ms) (l:Lo) (fb lb:Nat) (w:World) (A:Option Addr) (c:Nat) (hA:MA X C σ w) (hF:FI X fb lb l none w) (hl:σ.left=0) (hR:cE w X.P (.slice A x.args.length c) x.args):
  Calls prog 164 #[X.p, .pointer (some ⟨fb,0,none⟩), .agg #[.int .i64 x.k, .string (ai x.op), .string (ai x.nm), .string (ai x.tx), .int .i64 x.v, .slice A x.args.length c]] w (tw X C w (ev C n σ l x)):=by
 have HE:=G (show ev C n σ l x= .error σ.long by cases n with|zero=>rw[ev]|succ n=>rw[ev,if_pos hl]);obtain⟨k,op,nm,tx,v,xs⟩:=x;simp only[Ex.k,Ex.op,Ex.nm,Ex.tx,Ex.v,Ex.args]at hR⊢;obtain⟨N,hN⟩: ∃N,xs.length=N:=⟨_,rfl⟩
 rw[hN]at hR⊢;have HQ0:=G (iU hA hF hR #[.int .i64 k, .string (ai op), .string (ai nm), .string (ai tx), .int .i64 v, .slice A N c]);have HS:=G (ub HQ0.out.ma hl);clear hA hF hR hN;simp only[MX.p]at*;go_enter func164,ntmps164;go_wp2_with (go_at_call 162;refine HS.out.mono ?_;rintro e w1 ⟨rfl,hM,hH⟩;have HM1:=G (HQ0.out.mv.trans hM);have HH:=G hH;clear hM hH);exact⟨rfl,cZ HM1.out HE.out rfl HH.out⟩
theorem Ag (X:MX) (C:Cx) (n:Nat) (op nm tx:List UInt8) (v:Int) (xs:List Ex):tz X C n (.mk 1 op nm tx v xs):=by
 intro σ l fb lb w A c hA hF hl hn hR;simp only[Ex.k,Ex.op,Ex.nm,Ex.tx,Ex.v,Ex.args]at hR⊢;have hn1:2*σ.step.left<=n:=by show 2*(σ.left-1)<=n;omega
 obtain⟨N,hN⟩: ∃N,(xs).length=N:=⟨_,rfl⟩
 rw[hN]at hR⊢;have hwr: ∀z:Int,IntKind.i32.wrap z=kI z:=fun _=>rfl;have HQ0:=G (iU hA hF hR #[.int .i64 1, .string (ai op), .string (ai nm), .string (ai tx), .int .i64 v, .slice A N c]);have HS:=G (eR HQ0.out.ma hl);have HE:=G (Bm (C:=C) (n:=n) (l:=l) (op:=op) (nm:=nm) (tx:=tx) (v:=v) (a:=xs) hl);clear hA hF hR hN;simp only[MX.p]at*;go_enter func164,ntmps164;go_wp2_with (go_at_call 162;refine HS.out.mono ?_;rintro e w1 ⟨rfl,hM,hA1⟩;have HQ1:=G (HQ0.out.nx hM hA1);have f0:=HQ1.out.bk.cell;clear hM hA1 HS HQ0);go_ret;exact ec HQ1.out.mv HE.out HQ1.out.ma
theorem Af (X:MX) (C:Cx) (n:Nat) (op nm tx:List UInt8) (v:Int) (xs:List Ex) (hnm:nm.length<=1073741824):tz X C n (.mk 3 op nm tx v xs):=by
 intro σ l fb lb w A c hA hF hl hn hR;simp only[Ex.k,Ex.op,Ex.nm,Ex.tx,Ex.v,Ex.args]at hR⊢;have hn1:2*σ.step.left<=n:=by show 2*(σ.left-1)<=n;omega
 obtain⟨N,hN⟩: ∃N,(xs).length=N:=⟨_,rfl⟩
 rw[hN]at hR⊢;have hwr: ∀z:Int,IntKind.i32.wrap z=kI z:=fun _=>rfl;have HQ0:=G (iU hA hF hR #[.int .i64 3, .string (ai op), .string (ai nm), .string (ai tx), .int .i64 v, .slice A N c]);have HS:=G (eR HQ0.out.ma hl);have hE:=Dl (C:=C) (n:=n) (l:=l) (op:=op) (nm:=nm) (tx:=tx) (v:=v) (a:=xs) hl;clear hA hF hR hN
 cases hq:l nm with
 |some z=>
  have HE:=G (show ev C (n+1) σ l (.mk 3 op nm tx v xs)= .ok (z,σ.step) by rw[hE,hq];rfl);clear hE;simp only[MX.p]at*;go_enter func164,ntmps164;go_wp2_with (go_at_call 162;refine HS.out.mono ?_;rintro e w1 ⟨rfl,hM,hA1⟩;have HQ1:=G (HQ0.out.nx hM hA1);have f0:=HQ1.out.bk.cell;clear hM hA1 HS HQ0);refine az 12 1 [] mixed (by kernel_rfl) trivial ?_;repeat (refine sx ?_ (fun w1 hU=> ?_) ?_;rotate_left;(focus have f0:=(HQ1.out.ext hU.un).bk.cell;have fk:=(HQ1.out.ext hU.un).fi.fr.blk.cell;have f2:=(HQ1.out.ext hU.un).fi.fr.look hnm;rw[hq]at f2;simp only[bx,cF]at f2;clear hU;go_simp<;>with_reducible rfl);simp only[aY,aX,aW,aV,aU])
  intro w7 hw7 _;simp only[ac,aM];have HQ2:=G (HQ1.out.ext hw7.un);clear hw7 f0;go_wp2_with fail;go_ret;exact ec HQ2.out.mv HE.out HQ2.out.ma
 |none=>
  have HE:=G (show ev C (n+1) σ l (.mk 3 op nm tx v xs)= .ok (σ.ints nm,σ.step) by rw[hE,hq];rfl);clear hE;simp only[MX.p]at*;go_enter func164,ntmps164;go_wp2_with (go_at_call 162;refine HS.out.mono ?_;rintro e w1 ⟨rfl,hM,hA1⟩;have HQ1:=G (HQ0.out.nx hM hA1);have f0:=HQ1.out.bk.cell;clear hM hA1 HS HQ0);refine az 12 1 [] mixed (by kernel_rfl) trivial ?_;repeat (refine sx ?_ (fun w1 hU=> ?_) ?_;rotate_left;(focus have f0:=(HQ1.out.ext hU.un).bk.cell;have fk:=(HQ1.out.ext hU.un).fi.fr.blk.cell;have f2:=(HQ1.out.ext hU.un).fi.fr.look hnm;rw[hq]at f2;simp only[dL,cQ]at f2;clear hU;go_simp<;>with_reducible rfl);simp only[aY,aX,aW,aV,aU])
  intro w7 hw7 _;simp only[ac,aM];have HQ2:=G (HQ1.out.ext hw7.un);clear hw7 f0 HQ1;obtain⟨lf,_,_,_,hmb⟩:=HQ2.out.ma.mcl;have HMB:=G hmb;clear hmb;go_wp2_with fail;refine az 8 1 [] mixed (by kernel_rfl) trivial ?_;repeat (refine sx ?_ (fun w1 hU=> ?_) ?_;rotate_left;(focus have f0:=(HQ2.out.ext hU.un).bk.cell;have fk:=(HMB.out.ext hU.un).cell;have f2:=(HQ2.out.ext hU.un).ma.lookI hnm;clear hU;go_simp<;>with_reducible rfl);simp only[aY,aX,aW,aV,aU])
  intro w8 hw8 _;simp only[ac,aM];have HQ3:=G (HQ2.out.ext hw8.un);clear hw8;go_wp2_with fail;go_ret;exact ec HQ3.out.mv HE.out HQ3.out.ma
theorem Ac (X:MX) (C:Cx) (n:Nat) (op nm tx:List UInt8) (v:Int) (y:Ex) (ys:List Ex) (hy:m7 X C n y):tz X C n (.mk 6 op nm tx v (y::ys)):=by
 intro σ l fb lb w A c hA hF hl hn hR;simp only[Ex.k,Ex.op,Ex.nm,Ex.tx,Ex.v,Ex.args]at hR⊢;have hn1:2*σ.step.left<=n:=by show 2*(σ.left-1)<=n;omega
 obtain⟨N,hN⟩: ∃N,(y::ys).length=N:=⟨_,rfl⟩
 rw[hN]at hR⊢;have hwr: ∀z:Int,IntKind.i32.wrap z=kI z:=fun _=>rfl;have HQ0:=G (iU hA hF hR #[.int .i64 6, .string (ai op), .string (ai nm), .string (ai tx), .int .i64 v, .slice A N c]);have HS:=G (eR HQ0.out.ma hl);have hE:=Bl (C:=C) (n:=n) (l:=l) (op:=op) (nm:=nm) (tx:=tx) (v:=v) (a:=y::ys) hl;rw[show(y::ys).getD 0 nB=y from rfl]at hE;obtain⟨b,o,B,d,hAq,hb,hPb,hY,hRy⟩:=hR.yc 0 (by simp);subst hAq;have hN0:0<N:=by rw[<-hN];simp
 have hN0':(0:Int)<(N:Int):=by omega
 simp only[aE,a8,br]at hY hRy;obtain⟨k2,op2,nm2,tx2,v2,as2⟩:=y;have HV:=G hy;unfold m7 at HV;simp only[Ex.k,Ex.op,Ex.nm,Ex.tx,Ex.v,Ex.args]at hY hRy HV;have HY:=G hY;have HRy:=G hRy;clear hA hF hR hN hY hRy hy;have HT1:True:=trivial;have HW:=G (fun c W=>mq c W);rcases jc (ev C n σ.step l (Ex.mk k2 op2 nm2 tx2 v2 as2))with⟨i,s1,hr⟩|⟨oc,hr⟩
 ·rw[hr,eh]at hE;have hrl:=hn1;by_cases h33:op=[33]
  ·subst h33;rw[if_pos rfl]at hE;have HE:=G hE;clear hE;simp only[MX.p]at*;go_enter func164,ntmps164;go_wp2_with (first|(go_at_call 162;refine HS.out.mono ?_;rintro e w1 ⟨rfl,hM,hA1⟩;have HQ1:=G (HQ0.out.nx hM hA1);have f0:=HQ1.out.bk.cell;obtain⟨e0,e1,e2,e3,e4,e5⟩:=HY.out.ms HQ1.out.mv hPb hb;clear hM hA1 HS HQ0)|(go_at_call 164;clear HT1;refine(HV.out σ.step l fb lb _ B d HQ1.out.ma HQ1.out.fi (hrl) (HRy.out.ms HQ1.out.mv)).mono ?_;intro e w2 h;rw[hr]at h;obtain⟨hM,rfl,hA2⟩:=h.ok_;have HQ2:=G (HQ1.out.nx hM hA2);have f0:=HQ2.out.bk.cell;clear e0 e1 e2 e3 e4 e5;clear hM hA2)|(go_at_call 188;refine(HW.out _ _).mono ?_;rintro e w3 ⟨rfl,hE3⟩;have HQ3:=G (HQ2.out.ext hE3);clear hE3));go_ret;exact ec HQ3.out.mv HE.out HQ3.out.ma
  ·rw[if_neg h33]at hE;have HE:=G hE;have h33b:=beq_eq_false_iff_ne.2 h33;clear hE;simp only[MX.p]at*;go_enter func164,ntmps164;go_wp2_with (first|(go_at_call 162;refine HS.out.mono ?_;rintro e w1 ⟨rfl,hM,hA1⟩;have HQ1:=G (HQ0.out.nx hM hA1);have f0:=HQ1.out.bk.cell;obtain⟨e0,e1,e2,e3,e4,e5⟩:=HY.out.ms HQ1.out.mv hPb hb;clear hM hA1 HS HQ0)|(go_at_call 164;clear HT1;refine(HV.out σ.step l fb lb _ B d HQ1.out.ma HQ1.out.fi (hrl) (HRy.out.ms HQ1.out.mv)).mono ?_;intro e w2 h;rw[hr]at h;obtain⟨hM,rfl,hA2⟩:=h.ok_;have HQ2:=G (HQ1.out.nx hM hA2);have f0:=HQ2.out.bk.cell;clear e0 e1 e2 e3 e4 e5;clear hM hA2));go_ret;exact ec HQ2.out.mv HE.out HQ2.out.ma
 ·rw[hr,ed]at hE;have hrl:=hn1;have HE:=G hE;clear hE;simp only[MX.p]at*;go_enter func164,ntmps164;go_wp2_with (first|(go_at_call 162;refine HS.out.mono ?_;rintro e w1 ⟨rfl,hM,hA1⟩;have HQ1:=G (HQ0.out.nx hM hA1);have f0:=HQ1.out.bk.cell;obtain⟨e0,e1,e2,e3,e4,e5⟩:=HY.out.ms HQ1.out.mv hPb hb;clear hM hA1 HS HQ0)|(go_at_call 164;clear HT1;refine(HV.out σ.step l fb lb _ B d HQ1.out.ma HQ1.out.fi (hrl) (HRy.out.ms HQ1.out.mv)).mono ?_;intro e w2 h;rw[hr]at h;obtain⟨hM,rfl,hH⟩:=h.err_;have HMx:=G (HQ1.out.mv.trans hM);have HH:=G hH;clear hM hH));exact⟨rfl,cZ HMx.out HE.out rfl HH.out⟩
end
section
def pJ {α:Type} (k:Nat) (r:ER α):Prop:=match r with
 | .ok (_,s)=>s.stk=k
 | .error _=>True
theorem pJ.then {α β:Type} {k k':Nat} {r:ER α} {f:α->Ms->ER β} (h:pJ k r) (hf: ∀a s,s.stk=k->pJ k' (f a s)):pJ k' (r.then f):=by
 cases r with
 |error o=>exact trivial
 |ok p=>exact hf _ _ h
theorem pZ {R:Rs} {s:Ms} {c a b d:Int} {l:List UInt8} {k:Nat} (h:s.stk=k):pJ k (fW R s c a b d l):=by
 unfold fW;split
 ·exact trivial
 ·exact h
theorem l8 {E:Ms->Ex->ER Int} {k:Nat} (hE: ∀s x,s.stk=k->pJ k (E s x)): ∀(ls:List UInt8) (ys:List Ex) (vs:List Int) (la:Int) (d:Dt) (s:Ms),s.stk=k->pJ k (dW E ls ys vs la d s)
 |c::ls,y::ys,vs,la,d,s,h=>by
  rw[dW];split
  ·exact(hE s y h).then fun v s h=>l8 hE ls ys _ _ _ s h
  ·split
   ·exact l8 hE ls ys _ _ _ s h
   ·exact l8 hE ls ys _ _ _ s h
 | [],_,vs,la,d,s,h=>by unfold dW;exact h
 | _::_,[],vs,la,d,s,h=>by unfold dW;exact h
theorem zB {s:Ms} {n:Nat} {r:List UInt8}: ∀d:Dt,(d.put s n r).stk=s.stk
 | .no=>rfl
 | .txt _=>rfl
 | .arr _=>rfl
theorem AF {R:Rs} {E:Ms->Ex->ER Int} {k:Nat} (hE: ∀s x,s.stk=k->pJ k (E s x)) (c:Int) (ls:List UInt8) (a:List Ex) (s:Ms) (h:s.stk=k):pJ k (oz R E s c ls a):=by
 unfold oz nc;refine(l8 hE ls a [] 0 .no s h).then fun p s h=> ?_;split
 ·exact(pZ h).then fun r s h=>h
 ·split
  ·exact trivial
  ·split
   ·exact(pZ h).then fun r s h=>h
   ·exact(pZ h).then fun r s h=>(zB _).trans h
theorem ui {E:Ms->Ex->ER Int} {k:Nat} (hE: ∀s x,s.stk=k->pJ k (E s x)): ∀(ys:List Ex) (vs:List Int) (s:Ms),s.stk=k->pJ k (uk E vs s ys)
 | [],vs,s,h=>h
 |y::r,vs,s,h=>(hE s y h).then fun v s h=>ui hE r _ s h
theorem lJ {S:Ms->Lo->St->lx} {k:Nat} (hS: ∀s l x,s.stk=k->pJ k (S s l x)): ∀(ys:List St) (l:Lo) (s:Ms),s.stk=k->pJ k (mh S s l ys)
 | [],l,s,h=>h
 |y::r,l,s,h=>by
  rw[mh];refine(hS s l y h).then fun p s h=> ?_;split
  ·exact h
  ·exact lJ hS r _ s h
theorem AE {S:Ms->Lo->St->lx} (hS: ∀k s l x,s.stk=k->pJ k (S s l x)) (f:Fc) (vs:List Int) (s:Ms) {k:Nat} (h:s.stk=k):pJ k (fF S f vs s):=by
 unfold fF;split
 ·exact trivial
 ·refine(lJ (k:=s.stk+gF f) (fun s l x h=>hS _ s l x h) f.body _ _ rfl).then fun p s' h'=> ?_;show s'.stk-gF f=k;omega
theorem AI (op:List UInt8) (a b:Int) (s:Ms) {k:Nat} (h:s.stk=k):pJ k (fM op a b s):=by
 unfold fM;repeat' split
 all_goals first|exact h|exact trivial
theorem yh (C:Cx): ∀n,(∀k s l x,s.stk=k->pJ k (ev C n s l x))/\(∀k s l x,s.stk=k->pJ k (st C n s l x))/\(∀k s l c b,s.stk=k->pJ k (wh C n s l c b))
 |0=>⟨fun k s l x h=>(by rw[ev];exact trivial),fun k s l x h=>(by rw[st];exact trivial),fun k s l c b h=>(by rw[wh];exact trivial)⟩
 |n+1=>by
  obtain⟨h1,h2,h3⟩:=yh C n;refine⟨fun k s l x h=> ?_,fun k s l x h=> ?_,fun k s l c b h=> ?_⟩
  ·have h':s.step.stk=k:=h;rw[ev];split
   ·exact trivial
   split
   ·exact h'
   split
   ·exact h'
   split
   ·refine(h1 k _ l _ h').then fun i s h=> ?_;split
    ·exact h
    ·exact trivial
   split
   ·split
    ·exact AF (fun s x h=>h1 k s l x h) _ _ _ _ h'
    ·exact(ui (fun s x h=>h1 k s l x h) _ _ _ h').then fun vs s h=>AE (fun k s l x h=>h2 k s l x h) _ _ _ h
   split
   ·refine(h1 k _ l _ h').then fun i s h=> ?_;split<;>exact h
   ·refine(h1 k _ l _ h').then fun i s h=> ?_;split
    ·exact h
    split
    ·exact h
    refine(h1 k _ l _ h).then fun j s h=> ?_;split
    ·exact h
    ·exact AI _ _ _ _ h
  ·have h':s.step.stk=k:=h;rw[st];split
   ·exact trivial
   split
   ·exact h3 k _ _ _ _ h'
   refine pJ.then (k:=k) (by split;exact h';exact h1 k _ _ _ h') fun v s h=> ?_;split
   ·exact h
   split
   ·split
    ·exact h
    ·exact h
   split
   ·refine(h1 k _ l _ h).then fun u s h=> ?_;split
    ·exact h
    ·exact trivial
   split
   ·exact lJ (fun s l x h=>h2 k s l x h) _ _ _ h
   split<;>exact h
  ·rw[wh];refine(h1 k _ l _ h).then fun v s h=> ?_;split
   ·exact h
   refine(lJ (fun s l x h=>h2 k s l x h) _ _ _ h).then fun p s h=> ?_;split
   ·exact h
   ·exact h3 k _ _ _ _ h
theorem uT {C:Cx} {n:Nat} {s s':Ms} {l:Lo} {xs:List St} {p:Option Int×Lo} (h:mh (fun s l y=>st C n s l y) s l xs= .ok (p,s')):s'.stk=s.stk:=by
 have:=lJ (k:=s.stk) (fun s l x h=>(yh C n).2.1 _ s l x h) xs l s rfl;rw[h]at this;exact this
end
section
open Go.RowKit
structure RU (X:MX) (C:Cx) (σ:Ms) (w:World) (cs:Array Value) (pv bv av:Value) (ps:List (List UInt8)) (bd:List St) (vs:List Int) (W:World):Prop where
 mv:Mv X.S w W
 ma:MA X C σ W
 bk:aL W w.heap.size 59 cs
 rp:lC W X.P pv ps
 rb:cR W X.P bv bd
 ra:yR W (fun b=>X.hi<=b/\b<w.heap.size) av vs
 hw:X.hi<=w.heap.size
section
variable {X:MX} {C:Cx} {σ σ':Ms} {w W W':World} {cs:Array Value} {pv bv av:Value} {ps:List (List UInt8)} {bd:List St} {vs:List Int} {fb lb:Nat} {l:Lo} {ret:Option Int}
theorem RU.go {S:Nat->Prop} (h:RU X C σ w cs pv bv av ps bd vs W) (hM:Mv S W W') (hS: ∀k,k<w.heap.size+1->S k->X.S k) (hA:MA X C σ' W'):RU X C σ' w cs pv bv av ps bd vs W':=by
 have hw:=h.hw;have hg:=h.ma.ok.g;have hp: ∀k,X.P k-> ¬S k:=fun k hk hs=>MX.S_P hk (hS k (by simp only[MX.S,MX.P]at*;omega) hs);refine⟨h.mv.tr hM fun i hi hs=>hS i (by omega) hs,hA,hM.blk h.bk fun e=>MX.S_lt hw (hS _ (by omega) e),h.rp.keep (hM.keepP fun k hk _=>hp k hk) fun b hb _=>hb,h.rb.keep (hM.keepP fun k hk _=>hp k hk) fun b hb _=>hb,h.ra.keep (hM.keepP fun k hk _ hs=>MX.S_lt hk.1 (hS k (by omega) hs)) fun b hb _=>hb,hw⟩
theorem RU.ext (h:RU X C σ w cs pv bv av ps bd vs W) (hE:aq W W'):RU X C σ w cs pv bv av ps bd vs W':=h.go (S:=fun _=>False) (.of_ext hE) (fun _ _ h=>h.elim) (h.ma.ext hE)
theorem RU.new (hA:MA X C σ w) (h1:lC w X.P pv ps) (h2:cR w X.P bv bd) (h3:yR w (fun b=>X.hi<=b) av vs) (cs:Array Value):RU X C σ w cs pv bv av ps bd vs (w.alloc (.cells cs 59)):=
 ⟨.of_ext (O w _),hA.ext (O w _),an w _ _,h1.keep (.of_ext (O w _)) fun b hb _=>hb,h2.keep (.of_ext (O w _)) fun b hb _=>hb,h3.keep (.of_ext (O w _)) fun b hb hlt=>⟨hb,hlt⟩,hA.top⟩
theorem RU.fr (h:RU X C σ w cs pv bv av ps bd vs W) (hF:FR fb lb l ret W) (hf:w.heap.size+1<=fb) (hl:w.heap.size+1<=lb):FI X fb lb l ret W:=⟨hF,by have:=h.hw;omega,by have:=h.hw;omega⟩
theorem MX.T_new {k n:Nat} (hf:n+1<=fb) (hl:n+1<=lb):k<n+1->X.T fb lb k->X.S k:=fun hk h=>by
 rcases h with h|h|h
 ·exact h
 ·omega
 ·omega
theorem RU.lo (h:RU X C σ w cs pv bv av ps bd vs W) (hg:W.grownBy W' (some lb)) (hl:w.heap.size+1<=lb):RU X C σ w cs pv bv av ps bd vs W':=
 have hM:Mv (fun k=>k=lb) W W':= .of_grown hg fun k e=>by injection e with e;exact e.symm
 h.go hM (fun k hk e=>by omega) (h.ma.mv hM fun k hk e=>by have:=h.hw;omega)
end
theorem BL {w:World} {P:Nat->Prop} {A:Option Addr} {n c:Nat} {vs:List Int} (h:yR w P (.slice A n c) vs) (i:Nat) (hi:i<vs.length): ∃b o,A=some ⟨b,o,none⟩/\P b/\b<w.heap.size/\w.cell? ⟨b,o+i,none⟩=some (.int .i32 vs[i]):=by
 obtain⟨A',c',e,h⟩:=h;injection e with e1 e2 e3;subst e1 e2 e3;rcases h with h|⟨_,_,b,o,rfl,hP,hb,hc⟩
 ·subst h;simp at hi
 ·exact⟨b,o,rfl,hP,hb,hc i hi⟩
theorem zy {w:World} {P:Nat->Prop} {A:Option Addr} {n c:Nat} {vs:List (List UInt8)} (h:lC w P (.slice A n c) vs) (i:Nat) (hi:i<vs.length): ∃b o,A=some ⟨b,o,none⟩/\P b/\b<w.heap.size/\w.cell? ⟨b,o+i,none⟩=some (.string (ai vs[i])):=by
 obtain⟨A',c',e,h⟩:=h;injection e with e1 e2 e3;subst e1 e2 e3;rcases h with h|⟨_,_,b,o,rfl,hP,hb,hc⟩
 ·subst h;simp at hi
 ·exact⟨b,o,rfl,hP,hb,hc i hi⟩
theorem BH {X:MX} {C:Cx} {σ:Ms} {w W:World} {cs:Array Value} {pv bv av:Value} {ps:List (List UInt8)} {bd:List St} {vs:List Int} (h:RU X C σ w cs pv bv av ps bd vs W) {lf:Int} (hb:aL W X.g 127 (dJ X lf σ)) (l1:lf.toNat=σ.left) (l2: -9223372036854775808<=lf) (l3:lf<=9223372036854775807) (fl:Nat) (hk:σ.stk+fl<=1024):
  RU X C {σ with stk:=σ.stk+fl} w cs pv bv av ps bd vs (((W.setCell ⟨X.g,5,none⟩ (.int .i64 ((σ.stk:Int)+(fl:Int)))).alloc (.map #[] 0)).alloc (.cells #[.map (some W.heap.size), .bool false, .int .i32 0] 182))/\
  FR (W.heap.size+1) W.heap.size (fun _=>none) none (((W.setCell ⟨X.g,5,none⟩ (.int .i64 ((σ.stk:Int)+(fl:Int)))).alloc (.map #[] 0)).alloc (.cells #[.map (some W.heap.size), .bool false, .int .i32 0] 182))/\w.heap.size+1<=W.heap.size:=by
 have hA2:MA X C {σ with stk:=σ.stk+fl} (W.setCell ⟨X.g,5,none⟩ (.int .i64 ((σ.stk:Int)+(fl:Int)))):=by
  have:=h.ma.stk1 hb l1 l2 l3 (σ.stk+fl) hk;rwa [Int.natCast_add]at this
 have h2:=h.go (S:=X.S) (Mv.ms_g h.ma.ok (cd W X.g 5 (.int .i64 ((σ.stk:Int)+(fl:Int))))) (fun _ _ h=>h) hA2;have hsz:(W.setCell ⟨X.g,5,none⟩ (.int .i64 ((σ.stk:Int)+(fl:Int)))).heap.size=W.heap.size:=by simp[World.setCell]
 have h3:=FR.new (W.setCell ⟨X.g,5,none⟩ (.int .i64 ((σ.stk:Int)+(fl:Int))));rw[hsz]at h3;exact⟨(h2.ext (O _ _)).ext (O _ _),h3,h.bk.lt⟩
def Ct (X:MX) (C:Cx) (n:Nat):Prop:= ∀(s:List UInt8) (σ:Ms) (w:World) (A:Option Addr) (c:Nat) (vs:List Int),MA X C σ w->2*σ.left<=n->yR w (fun b=>X.hi<=b) (.slice A vs.length c) vs->md vs->(C.fn s).ps.length<=vs.length->
 Calls prog 48 #[X.p,X.fv s, .slice A vs.length c] w (tw X C w (fF (fun s l y=>st C n s l y) (C.fn s) vs σ))
theorem rk (X:MX) (C:Cx) (n:Nat) (hS:Et X C n) (hC:Cv C):Ct X C n:=by
 intro s σ w A c vs hA hn hV hI hl;obtain⟨pv,bv,hfv,hRp,hRb⟩:=hA.fr s;rw[hfv];have hsafe:=hC.safe s;have hwt:=hC.wt s;have hps:=hC.ps s;have hpn:=hC.pn s;clear hC hfv;generalize C.fn s=f at*;obtain⟨fnm,ps,bd⟩:=f;simp only at hRp hRb hsafe hwt hps hpn hl⊢;obtain⟨Ap,cp,hpv,hRp'⟩:=id hRp;obtain⟨Ab,cb,hbv,_⟩:=hRb.form;subst hpv hbv;have hdl:=jz bd;obtain⟨fl,hfl⟩: ∃q,gF ⟨fnm,ps,bd⟩=q:=⟨_,rfl⟩
 have hflb:fl<=100000000:=by rw[<-hfl];unfold gF;simp only;omega
 have HFR:=G (fun W (h:cR W X.P (.slice Ab bd.length cb) bd)=>show Calls prog 24 #[.agg #[.string (ai fnm), .slice Ap ps.length cp, .slice Ab bd.length cb]] W fun e w'=>e= .returned (.int .i64 (fl:Int))/\aq W w' from hfl▸sg fnm ps bd hwt hps X.P W Ap Ab cp cb h);have hcf:fF (fun s l y=>st C n s l y) ⟨fnm,ps,bd⟩ vs σ=if 1024<σ.stk+fl then .error σ.fails else(mh (fun s l y=>st C n s l y) {σ with stk:=σ.stk+fl} (gm (rZ (fun _=>none) ps vs) bd) bd).then fun p s=> .ok (p.1.getD 0,{s with stk:=s.stk-fl}):=by rw[<-hfl];rfl
 obtain⟨Rv,hRv⟩: ∃R,fF (fun s l y=>st C n s l y) ⟨fnm,ps,bd⟩ vs σ=R:=⟨_,rfl⟩
 rw[hRv]at hcf⊢;have hstk:=hA.stk;have HSS:=G (hS bd hsafe (by omega));unfold AT at HSS;have HDF:=G (lu _ bd (ah _) (by omega));unfold Du at HDF;obtain⟨M,hM⟩: ∃m,ps.length=m:=⟨_,rfl⟩
 obtain⟨NV,hNV⟩: ∃m,vs.length=m:=⟨_,rfl⟩
 rw[hM]at HFR hRp hps hl⊢;rw[hNV]at hV hl⊢;have HQ0:=G (RU.new hA hRp hRb hV #[.string (ai fnm), .slice Ap M cp, .slice Ab bd.length cb]);have HPN:=G hpn;have HI:=G hI;have HM:=G hM;have HNV:=G hNV;have hw1:IntKind.i64.wrap ((σ.stk:Int)+(fl:Int))=((σ.stk+fl:Nat):Int):=by simp[IntKind.wrap,IntKind.signed,IntKind.bits];omega
 clear hA hRp hRp' hRb hV hRv hfl hpn hI hM hNV hS hdl hsafe;by_cases hov:1024<σ.stk+fl
 ·rw[if_pos hov]at hcf;have HE:=G hcf;have hov':(1024:Int)<((σ.stk+fl:Nat):Int):=by omega
  clear hcf;simp only[MX.p]at*;go_enter func48,ntmps48;go_wp2_with (go_at_call 24;refine(HFR.out _ HQ0.out.rb).mono ?_;rintro e w1 ⟨rfl,hE⟩;have HQ1:=G (HQ0.out.ext hE);have HH:=G (HQ1.out.ma.halt 2);obtain⟨lf,l1,l2,l3,hmb⟩:=HQ1.out.ma.mcl;have fk:=hmb.cell;clear hE HFR HQ0 hmb l1 l2 l3);exact⟨rfl,cZ HQ1.out.mv HE.out rfl HH.out⟩
 rw[if_neg hov]at hcf;have hov': ¬(1024:Int)<((σ.stk+fl:Nat):Int):=by omega
 have HCF:=G hcf;clear hcf;simp only[MX.p]at HFR HSS HDF⊢;go_enter func48,ntmps48;have hmm:= @run_makeMap prog;go_wp2_with (go_at_call 24;refine(HFR.out _ HQ0.out.rb).mono ?_;rintro e w1 ⟨rfl,hE⟩;have HQ1:=G (HQ0.out.ext hE);obtain⟨lf,l1,l2,l3,hmb⟩:=HQ1.out.ma.mcl;have HR3:=G (BH HQ1.out hmb l1 l2 l3 fl (by omega));have fk:=hmb.cell;have fz:=hmb.frozen;have f0:=HR3.out.1.bk.cell;clear hE HFR HQ0 HQ1 hmb l1 l2 l3);have HQ3:=G HR3.out.1;have HF3:=G HR3.out.2.1;have HLB:=G HR3.out.2.2;clear hmm f0 fk fz HR3;generalize ((w1.setCell ⟨X.g,5,none⟩ (.int .i64 ((σ.stk:Int)+(fl:Int)))).alloc (.map #[] 0)).alloc (.cells #[.map (some w1.heap.size), .bool false, .int .i32 0] 182)=w3 at*;generalize w1.heap.size=lb at*;obtain⟨L0,hL0⟩: ∃L,rZ (fun _=>none) ps vs=L:=⟨_,rfl⟩
 have HL0:=G (show rZ (fun _=>none) (ps.drop 0) (vs.drop 0)=L0 from hL0);rw[hL0]at HCF;clear hL0
 go_loopw [36] (fun vi wr=> ∃(j:Nat) (lj:Lo),vi= .int .i64 (j:Int)/\j<=M/\Hid (rZ lj (ps.drop j) (vs.drop j)=L0)/\Hid (RU X C {σ with stk:=σ.stk+fl} w #[.string (ai fnm), .slice Ap M cp, .slice Ab bd.length cb] (.slice Ap M cp) (.slice Ab bd.length cb) (.slice A NV c) ps bd vs wr)/\Hid (FR (lb+1) lb lj none wr)) (fun vi _=>M-(intOf vi).toNat)
 case atStart=>exact⟨0,_,rfl,aG _,HL0,HQ3,HF3⟩
 case round=>
  obtain⟨j,lj,rfl,hj,HLj,HX,HFj⟩:=hrel;by_cases hlt:j<M
  ·have hlt':(j:Int)<M:=by omega
   have hjp:j<ps.length:=by have:=HM.out;omega
   have hjv:j<vs.length:=by have:=HNV.out;omega
   have hjn:j<NV:=by omega
   have hjn':(j:Int)<NV:=by omega
   have hS:=xK (l:=lj) hjp hjv;obtain⟨b,o,rfl,hPb,hb,e0⟩:=zy HX.out.rp j hjp;obtain⟨b2,o2,rfl,hPb2,hb2,a0⟩:=BL HX.out.ra j hjv;have hq:=HPN.out _ (au hjp);have hz:=HI.out _ (au hjv);generalize ps[j]=q at*;generalize vs[j]=z at*;have HS:=G (hS.symm.trans HLj.out);clear hS;go_wp2_with fail;refine az 9 1 [] mixed (by kernel_rfl) trivial ?_;repeat (refine sx ?_ (fun w1 hU=> ?_) ?_;rotate_left;(focus have fk:=(HFj.out.ext hU.un).blk.cell;have a1:=(hU.un.cell b2 _ hb2).trans a0;clear hU;go_simp<;>with_reducible rfl);simp only[aY,aX,aW,aV,aU])
   intro w7 hw7 _;simp only[ac,ap];have HF7:=G (HFj.out.ext hw7.un);have HX7:=G (HX.out.ext hw7.un);clear hw7 e0 a0;go_wp2_with (at_mapUpdate;refine cB B5 rfl _ _ _ rfl HF7.out.m rfl (by unfold maxLen;omega) rfl _ rfl ?_;intro w8 hm8 hg8;have HF8:=G (HF7.out.upd hz hm8 hg8);have HX8:=G (HX7.out.lo hg8 HLB.out);clear hm8 hg8);go_roundw
   case rel=>exact⟨j+1,_,by go_num,by omega,HS,HX8,HF8⟩
   case measure=>simp[intOf];omega
  ·have hlt': ¬(j:Int)<M:=by omega
   have hLj:lj=L0:=by rw[<-HLj.out,Ah (by have:=HM.out;omega)]
   subst hLj;have hne: ∀b,X.P b->b≠lb:=fun b hb e=>by have:=HLB.out;have:=HX.out.hw;have:=HX.out.ma.ok.g;simp only[MX.S,MX.P]at*;omega
   have HNE:=G hne;have HCF:=HCF;have f0:=HX.out.bk.cell;have hle:2*({σ with stk:=σ.stk+fl}:Ms).left<=n:=hn;have HLE:=G hle;clear hne hle;have HT1:True:=trivial;rcases hs:mh (fun s l y=>st C n s l y) {σ with stk:=σ.stk+fl} (gm lj bd) bd with oc|⟨⟨rt,l2⟩,s2⟩
   ·have HE:=G (show Rv= .error oc by rw[HCF.out,hs];rfl);clear HCF;go_wp2_with (first|(go_at_call 85;clear HT1;refine(HDF.out X.g (lb+1) lb lj none X.P _ Ab _ cb HFj.out HX.out.rb HNE.out).mono ?_;unfold Ez;rintro e w4 ⟨rfl,hg,hf⟩;have HX4:=G (HX.out.lo hg HLB.out);have HF4:=G hf;clear f0;have f0:=HX4.out.bk.cell;clear hg hf HDF)|(go_at_call 86;refine(HSS.out _ _ (lb+1) lb _ Ab cb HX4.out.ma (HX4.out.fr HF4.out (by have:=HLB.out;omega) HLB.out) HLE.out HX4.out.rb).mono ?_;intro e w5 h;rw[hs]at h;obtain⟨hM,rfl,hH⟩:=h.err_;have HMx:=G (HX4.out.mv.tr hM fun k hk h=>MX.T_new (n:=w.heap.size) (by have:=HLB.out;omega) HLB.out (by omega) h);have HH:=G hH;clear hM hH h));exact⟨rfl,cZ HMx.out HE.out rfl HH.out⟩
   ·have hk2:=uT hs;have hk3:s2.stk=σ.stk+fl:=hk2;have hst2:(s2.stk:Int)=(σ.stk:Int)+(fl:Int):=by omega
    have HE:=G (show Rv= .ok (rt.getD 0,{s2 with stk:=σ.stk}) by
     rw[HCF.out,hs,eh,hk3];show Except.ok (rt.getD 0,({s2 with stk:=σ.stk+fl-fl}:Ms))=_
     rw[Nat.add_sub_cancel])
    have hw2:IntKind.i64.wrap ((σ.stk:Int)+(fl:Int)-(fl:Int))=(σ.stk:Int):=by simp[IntKind.wrap,IntKind.signed,IntKind.bits];omega
    have hw3:IntKind.i64.wrap (σ.stk:Int)=(σ.stk:Int):=by simp[IntKind.wrap,IntKind.signed,IntKind.bits];omega
    clear HCF hk2;go_wp2_with (first|(go_at_call 85;clear HT1;refine(HDF.out X.g (lb+1) lb lj none X.P _ Ab _ cb HFj.out HX.out.rb HNE.out).mono ?_;unfold Ez;rintro e w4 ⟨rfl,hg,hf⟩;have HX4:=G (HX.out.lo hg HLB.out);have HF4:=G hf;clear f0;have f0:=HX4.out.bk.cell;clear hg hf HDF)|(go_at_call 86;refine(HSS.out _ _ (lb+1) lb _ Ab cb HX4.out.ma (HX4.out.fr HF4.out (by have:=HLB.out;omega) HLB.out) HLE.out HX4.out.rb).mono ?_;intro e w5 h;rw[hs]at h;obtain⟨hM,rfl,hA5,hF5⟩:=h.ok_;have HX5:=G (HX4.out.go hM (fun k hk h=>MX.T_new (n:=w.heap.size) (by have:=HLB.out;omega) HLB.out hk h) hA5);have HF5:=G hF5;obtain⟨lf5,l51,l52,l53,hmb5⟩:=hA5.mcl;simp only[dJ,hst2]at hmb5;have fk5:=hmb5.cell;have fz5:=hmb5.frozen;have HMB5:=G hmb5;have HML5:=G (ax l51 (ax l52 l53));have hfg:lb+1≠X.g:=(by have:=HLB.out;have:=HX5.out.hw;have:=hA5.ok.g;simp only[MX.S]at*;omega);have fv5:=(hF5.blk.far (p:=⟨X.g,5,none⟩) hfg (.int .i64 (σ.stk:Int))).cell;clear hM hA5 hF5 h hmb5 l51 l52 l53));have HA6:=G (HX5.out.ma.stk1 (by have:=HMB5.out;unfold dJ;rw[hst2];exact this) HML5.out.1 HML5.out.2.1 HML5.out.2.2 σ.stk hstk);have HM6:=G (HX5.out.mv.trans (Mv.ms_g HX5.out.ma.ok (cd w5 X.g 5 (.int .i64 (σ.stk:Int)))));go_ret;exact ec HM6.out HE.out HA6.out
end
section
def EJ (Q:Ms->Prop) {α:Type} (r:ER α):Prop:=match r with
 | .ok (_,s)=>Q s
 | .error _=>True
theorem Av {C:Cx}: ∀(n:Nat) (s:Ms) (l:Lo) (x:Ex),EJ (fun s'=>s'.left+1<=s.left) (ev C n s l x)
 |0,s,l,x=>by rw[ev];exact trivial
 |n+1,s,l,x=>by
  rw[ev];split
  ·exact trivial
  rename_i h0;have hQ:=iH C.R (s.left-1);have h':s.step.left<=s.left-1:=ah _;have fin: ∀{α:Type} {r:ER α},oI (fun s'=>s'.left<=s.left-1) r->EJ (fun s'=>s'.left+1<=s.left) r:=fun{α r} h=>by
   cases r with
   |error e=>exact trivial
   |ok p=>have h:p.2.left<=s.left-1:=h;show p.2.left+1<=s.left;omega
  obtain⟨h1,h2,h3⟩:=rA hQ (C:=C) rfl n;apply fin;split
  ·exact h'
  split
  ·exact h'
  split
  ·refine(h1 _ l _ h').then fun i s h=> ?_;split
   ·exact h
   ·exact .err h rfl
  split
  ·split
   ·exact yG hQ (fun s x h=>h1 s l x h) _ _ _ _ h'
   ·exact(s5 (fun s x h=>h1 s l x h) _ _ _ h').then fun vs s h=>yD hQ (fun s l x h=>h2 s l x h) _ _ _ h
  split
  ·refine(h1 _ l _ h').then fun i s h=> ?_;split<;>exact h
  ·refine(h1 _ l _ h').then fun i s h=> ?_;split
   ·exact h
   split
   ·exact h
   refine(h1 _ l _ h).then fun j s h=> ?_;split
   ·exact h
   ·exact yI _ _ _ _ h
theorem Di {C:Cx} {n:Nat} {s s':Ms} {l:Lo} {x:Ex} {v:Int} (h:ev C n s l x= .ok (v,s')):s'.left+1<=s.left:=by
 have:=Av (C:=C) n s l x;rw[h]at this;exact this
theorem mG {C:Cx} {n:Nat} {s s':Ms} {l:Lo} {x:Ex} {v:Int} (h:ev C n s l x= .ok (v,s')) (h1:j0 s) (h2:pL l):eO v:=by
 have:=(s7 C n).1 s l x h1 h2;rw[h]at this;exact this.1
theorem pT {C:Cx} {n:Nat} {s s':Ms} {l:Lo} {ex:List Ex} {v:Int} (h:val C n s l ex= .ok (v,s')) (h1:j0 s) (h2:pL l):eO v:=by
 unfold val at h;split at h
 ·cases h;decide
 ·exact mG h h1 h2
theorem qB {C:Cx} {n:Nat} {s s':Ms} {l:Lo} {ex:List Ex} {v:Int} (h:val C n s l ex= .ok (v,s')):s'.left<=s.left:=by
 unfold val at h;split at h
 ·cases h;exact ah _
 ·exact nz h
theorem wV {C:Cx} {n:Nat} {s s':Ms} {l:Lo} {xs:List St} {v:Option Int×Lo} (h:mh (fun s l y=>st C n s l y) s l xs= .ok (v,s')):s'.left<=s.left:=by
 have:=nM (Q:=fun s'=>s'.left<=s.left) (fun s1 l x h=>(rA (iH C.R s.left) rfl n).2.1 s1 l x h) xs l s (ah _);rw[h]at this;exact this
end
section
open Go.RowKit
def MF (X:MX) (w:World):Prop:=(∃cs:Array Value,aL w X.g 127 cs/\cs[0]? =some (.map (some X.bf)))/\ ∃L,bM w X.bf L/\ ∀s,(L s).getD (.agg #[.string ⟨#[]⟩, .slice none 0 0, .slice none 0 0])=X.fv s
def UF (X:MX) (a c:World):Prop:=Mv X.S a c/\(MF X a->MF X c)
section
variable {X:MX} {C:Cx} {σ σ':Ms} {w w' a b c:World}
theorem MA.mf (h:MA X C σ w):MF X w:=by
 obtain⟨lf,_,_,_,hb⟩:=h.blk;exact⟨⟨_,hb,rfl⟩,h.f⟩
theorem MF.c0 (h:MF X w):w.cell? ⟨X.g,0,none⟩=some (.map (some X.bf)):=by
 obtain⟨⟨cs,hb,h0⟩,_⟩:=h;rw[hb.cell,h0]
theorem MF.look (h:MF X w) {s:List UInt8} (hs:s.length<=1073741824):(Instr.lookup 123 (.map (some X.bf)) (.string (ai s)) false).run prog w= .ok (X.fv s) w:=by
 obtain⟨_,L,f1,f2⟩:=h;rw[(f1.look ED (by unfold maxLen;omega)).1,f2]
theorem MF.ext (h:MF X w) (hE:aq w w'):MF X w':=by
 obtain⟨⟨cs,hb,h0⟩,L,f1,f2⟩:=h;exact⟨⟨cs,hb.ext hE,h0⟩,L,f1.ext hE,f2⟩
theorem UF.trans (h:UF X a b) (k:UF X b c):UF X a c:=⟨h.1.trans k.1,fun x=>k.2 (h.2 x)⟩
theorem UF.of_ext (h:aq a b):UF X a b:=⟨.of_ext h,fun x=>x.ext h⟩
theorem UF.of_ma (hM:Mv X.S w w') (hA:MA X C σ w'):UF X w w':=⟨hM,fun _=>hA.mf⟩
end
section
variable {P:Program} {ops:Array Oper} {Q:Exit->Act->World->Prop}
theorem jm (X:MX) {id:Nat} {a:Act} {w:World} (m f:Nat) (l:List uw) (x:Nat) (hm:P.follows .mixedOrders=true) (hok:BS ops m a.tmps.size=true)
  (hs:iZ aq l) (hx:lI x (UF X) l)
  (h:dY P Q ops f (ef l) (some x) (fun _=>false) aq (UF X) w.drew (fun a Φ=> ∀w',Mv X.S w w'->(∀p∈Φ,p.2 w')->wpList P ops Q (ops.toList.drop m) a w') (ops.toList.take m) 0 a []):(Code.region id ops true).wp P Q a w:=by
 refine eV m f (ef l) (some x) aq (UF X) hm hok aR (fun _ _ _=>UF.trans) (fun _ _ h=> .of_ext h) (fun _ _ _=>mM) hs.out hx.out ?_;exact dY.fin (fun a Φ h w' h1 h2=>h w' h1.1.un h2) _ _ _ _ h
end
section
variable {X:MX} {C:Cx} {σ σ':Ms} {l:Lo} {fb lb:Nat} {w W W':World} {cs:Array Value} {v:Value} {xs:List Ex} {rw0:Option Nat}
theorem EQ.row (h:EQ X C σ l fb lb w w.heap.size cs v xs W) (hg:W.grownBy W' rw0) (hr: ∀k,rw0=some k->w.heap.size+1<=k) (lf:fb<w.heap.size) (ll:lb<w.heap.size):EQ X C σ l fb lb w w.heap.size cs v xs W':=by
 have hM:Mv (fun k=>rw0=some k) W W':= .of_grown hg fun k e=>e;have hw:=h.hw;have ok:=h.ma.ok.g;exact⟨h.mv.tr hM fun i hi e=>by have:=hr i e;omega,h.ma.mv hM fun k hk e=>by have:=hr k e;omega,⟨h.fi.fr.mv hM (fun e=>by have:=hr _ e;omega) (fun e=>by have:=hr _ e;omega),h.fi.f,h.fi.l⟩,hM.blk h.bk (fun e=>by have:=hr _ e;omega),h.re.keep (hM.keepP fun k hk _ e=>by have:=hr k e;simp only[MX.S,MX.P]at*;omega) fun b hb _=>hb,h.hp,hw⟩
end
def ow (C:Cx) (n:Nat) (σ:Ms) (l:Lo) (nm:List UInt8) (xs:List Ex):ER Int:=match ee nm with
 |some (c,ls)=>oz C.R (fun s y=>ev C n s l y) σ c ls xs
 |none=>(uk (fun s y=>ev C n s l y) [] σ xs).then fun vs s=>fF (fun s l y=>st C n s l y) (C.fn nm) vs s
def uy (X:MX) (C:Cx) (n:Nat) (k:Int) (op nm tx:List UInt8) (v:Int) (xs:List Ex):Prop:= ∀(σ:Ms) (l:Lo) (fb lb:Nat) (w:World) (A:Option Addr) (c:Nat),MA X C σ w->FI X fb lb l none w->2*σ.left<=n->cE w X.P (.slice A xs.length c) xs->
 Calls prog 187 #[X.p, .pointer (some ⟨fb,0,none⟩), .agg #[.int .i64 k, .string (ai op), .string (ai nm), .string (ai tx), .int .i64 v, .slice A xs.length c]] w (tw X C w (ow C n σ l nm xs))
def Cz (X:MX) (C:Cx) (n:Nat) (k:Int) (op nm tx:List UInt8) (v:Int) (xs:List Ex) (bc:Int) (ls:List UInt8):Prop:= ∀(σ:Ms) (l:Lo) (fb lb:Nat) (w:World) (A:Option Addr) (c:Nat),MA X C σ w->FI X fb lb l none w->2*σ.left<=n->cE w X.P (.slice A xs.length c) xs->
 Calls prog 209 #[X.p, .pointer (some ⟨fb,0,none⟩), .agg #[.int .i64 k, .string (ai op), .string (ai nm), .string (ai tx), .int .i64 v, .slice A xs.length c], .int .i64 bc, .string (ai ls)] w (tw X C w (oz C.R (fun s y=>ev C n s l y) σ bc ls xs))
theorem sU (X:MX) (C:Cx) (n:Nat) (k:Int) (op nm tx:List UInt8) (v:Int) (xs:List Ex) (bc:Int) (ls:List UInt8) (hb:ee nm=some (bc,ls)) (hB:Cz X C n k op nm tx v xs bc ls):uy X C n k op nm tx v xs:=by
 intro σ l fb lb w A c hA hF hn hR;unfold Cz at hB;have HB:=G hB;obtain⟨Rv,hRv⟩: ∃R,ow C n σ l nm xs=R:=⟨_,rfl⟩
 have HE:=G (show oz C.R (fun s y=>ev C n s l y) σ bc ls xs=Rv by rw[<-hRv];unfold ow;rw[hb]);rw[hRv];obtain⟨N,hN⟩: ∃N,xs.length=N:=⟨_,rfl⟩
 rw[hN]at hR HB⊢;have HQ0:=G (iU hA hF hR #[.int .i64 k, .string (ai op), .string (ai nm), .string (ai tx), .int .i64 v, .slice A N c])
 have HBL:=G (show Calls prog 22 #[.string (ai nm)] (w.alloc (.cells #[.int .i64 k, .string (ai op), .string (ai nm), .string (ai tx), .int .i64 v, .slice A N c] 70)) fun e w'=>e= .returned (.tuple #[.int .i64 bc, .string (ai ls), .bool true])/\aq (w.alloc (.cells #[.int .i64 k, .string (ai op), .string (ai nm), .string (ai tx), .int .i64 v, .slice A N c] 70)) w' from by
  have:=kG nm _ HQ0.out.ma.t;rw[hb]at this
  exact this)
 clear hA hF hR hN hB hRv;simp only[MX.p]at*;have HT1:True:=trivial;go_enter func187,ntmps187;rcases Rv with oc|⟨z,s1⟩
 ·go_wp2_with (first|(go_at_call 22;clear HT1;refine HBL.out.mono ?_;rintro e w1 ⟨rfl,hE⟩;have HQ1:=G (HQ0.out.ext hE);have f0:=HQ1.out.bk.cell;clear hE HBL HQ0)|(go_at_call 209;refine(HB.out σ l fb lb _ A c HQ1.out.ma HQ1.out.fi hn HQ1.out.re).mono ?_;rw[HE.out];intro e w2 h;obtain⟨hM,rfl,hH⟩:=h.err_;have HMx:=G (HQ1.out.mv.trans hM);have HH:=G hH;clear hM hH h));exact⟨rfl,cZ HMx.out rfl rfl HH.out⟩
 ·go_wp2_with (first|(go_at_call 22;clear HT1;refine HBL.out.mono ?_;rintro e w1 ⟨rfl,hE⟩;have HQ1:=G (HQ0.out.ext hE);have f0:=HQ1.out.bk.cell;clear hE HBL HQ0)|(go_at_call 209;refine(HB.out σ l fb lb _ A c HQ1.out.ma HQ1.out.fi hn HQ1.out.re).mono ?_;rw[HE.out];intro e w2 h;obtain⟨hM,rfl,hA2⟩:=h.ok_;have HQ2:=G (HQ1.out.nx hM hA2);clear hM hA2 h));go_ret;exact ec HQ2.out.mv rfl HQ2.out.ma
theorem sV (X:MX) (C:Cx) (n:Nat) (k:Int) (op nm tx:List UInt8) (v:Int) (xs:List Ex) (hnm:nm.length<=1073741824) (hw:fL xs<=1073741824) (hb:ee nm=none) (hps:(C.fn nm).ps.length<=xs.length) (hV: ∀y∈xs,m7 X C n y) (hRun:Ct X C n):uy X C n k op nm tx v xs:=by
 intro σ l fb lb w A c hA hF hn hR;have hlen:=dB xs;have HV:=G hV;have HRun:=G hRun;have HR:=G hR;obtain⟨Rv,hRv⟩: ∃R,ow C n σ l nm xs=R:=⟨_,rfl⟩
 have HE0:=G (show(uk (fun s y=>ev C n s l y) [] σ (xs.drop 0)).then (fun vs s=>fF (fun s l y=>st C n s l y) (C.fn nm) vs s)=Rv by rw[<-hRv];unfold ow;rw[hb];rfl);rw[hRv];obtain⟨N,hN⟩: ∃N,xs.length=N:=⟨_,rfl⟩
 have HN:=G hN;rw[hN]at hR HR hps hlen⊢;have hNb:N<=1073741824:=by omega
 have lf:=hF.fr.blk.lt;have ll:=hF.fr.m.lt;have HLF:=G (ax lf ll);have HQ0:=G (iU hA hF hR #[.int .i64 k, .string (ai op), .string (ai nm), .string (ai tx), .int .i64 v, .slice A N c])
 have HBL:=G (show Calls prog 22 #[.string (ai nm)] (w.alloc (.cells #[.int .i64 k, .string (ai op), .string (ai nm), .string (ai tx), .int .i64 v, .slice A N c] 70)) fun e w'=>e= .returned (.tuple #[.int .i64 0, .string ⟨#[]⟩, .bool false])/\aq (w.alloc (.cells #[.int .i64 k, .string (ai op), .string (ai nm), .string (ai tx), .int .i64 v, .slice A N c] 70)) w' from by
  have:=kG nm _ HQ0.out.ma.t;rw[hb]at this
  exact this)
 have HO0:=G (jZ.nil_ w (w.heap.size+1));have HNN:=G (show 2*σ.left<=n from hn);have HI0:=G (show md []from fun x hx=>by cases hx);clear hA hF hR hN hV hRun hRv lf ll hlen hw hn;simp only[MX.p]at*;have HT1:True:=trivial;go_enter func187,ntmps187;go_wp2_with (go_at_call 22;clear HT1;refine HBL.out.mono ?_;rintro e w1 ⟨rfl,hE⟩;have HQ1:=G (HQ0.out.ext hE);have HO1:=G (jZ.nil_ w1 (w.heap.size+1));have f0:=HQ1.out.bk.cell;clear hE HBL HQ0);clear f0
 go_loopw [10,30] (fun va vi wr=> ∃(j:Nat) (B:Option Addr) (d:Nat) (vs:List Int) (σj:Ms),vi= .int .i64 (j:Int)/\va= .slice B j d/\j<=N/\Hid (vs.length=j)/\Hid (2*σj.left<=n)/\Hid ((uk (fun s y=>ev C n s l y) vs σj (xs.drop j)).then (fun vs s=>fF (fun s l y=>st C n s l y) (C.fn nm) vs s)=Rv)/\Hid (EQ X C σj l fb lb w w.heap.size #[.int .i64 k, .string (ai op), .string (ai nm), .string (ai tx), .int .i64 v, .slice A N c] (.slice A N c) xs wr)/\Hid (jZ wr (w.heap.size+1) (.slice B j d) vs)/\Hid (md vs)) (fun _ vi _=>N-(intOf vi).toNat)
 case atStart=>exact⟨0,none,0,[],σ,rfl,rfl,aG _,G rfl,HNN,HE0,HQ1,HO1,HI0⟩
 case round=>
  obtain⟨j,B,d,vs,σj,rfl,rfl,hj,HL,HNj,HQ,HX,HO,HI⟩:=hrel;by_cases hlt:j<N
  ·have hlt':(j:Int)<N:=by omega
   have hjl:j<xs.length:=by have:=HN.out;omega
   obtain⟨b,o,B2,d2,rfl,hb,hPb,hY,hRy⟩:=HR.out.yc j hjl;have hE1:=yg (E:=fun s y=>ev C n s l y) (vs:=vs) (s:=σj) hjl;have hVy:=HV.out _ (au hjl);obtain⟨y,hy⟩: ∃y,xs[j]=y:=⟨_,rfl⟩
   rw[hy]at hY hRy hE1 hVy;clear hy;obtain⟨k2,op2,nm2,tx2,v2,as2⟩:=y;unfold m7 at hVy;simp only[Ex.k,Ex.op,Ex.nm,Ex.tx,Ex.v,Ex.args]at hY hRy hVy;obtain⟨e0,e1,e2,e3,e4,e5⟩:=hY.ms HX.out.mv hPb hb;have hAl:=O wr (.cells #[.int .i64 k2, .string (ai op2), .string (ai nm2), .string (ai tx2), .int .i64 v2, .slice B2 as2.length d2] 70);have HX1:=G (HX.out.ext hAl);have HO1:=G (HO.out.ext hAl);have HC:=G (hVy σj l fb lb _ B2 d2 HX1.out.ma HX1.out.fi HNj.out (hRy.ms HX1.out.mv));simp only[MX.p]at HC;have hrg:=HX1.out.ma.rng;have hlo:=HX1.out.fi.fr.rng;clear hVy hAl hY hRy HX HO;rcases hr:ev C n σj l (.mk k2 op2 nm2 tx2 v2 as2)with oc|⟨z,s2⟩
   ·rw[hr,ed]at hE1;have HEE:=G (show Rv= .error oc by rw[<-HQ.out,hE1];rfl);rw[hr]at HC;clear hE1 hr;go_wp2_with (go_at_call 164;refine HC.out.mono ?_;intro e w3 h;obtain⟨hM,rfl,hH⟩:=h.err_;have HMx:=G (HX1.out.mv.trans hM);have HH:=G hH;clear hM hH h HC);exact⟨rfl,cZ HMx.out HEE.out rfl HH.out⟩
   ·have hzi:=mG hr hrg hlo;have hle:=nz hr;rw[hr,eh]at hE1;have HEE:=G (show(uk (fun s y=>ev C n s l y) (vs++[z]) s2 (xs.drop (j+1))).then (fun vs s=>fF (fun s l y=>st C n s l y) (C.fn nm) vs s)=Rv by rw[<-HQ.out,hE1]);rw[hr]at HC;clear hE1 hr hrg hlo;go_wp2_with (first|(go_at_call 164;refine HC.out.mono ?_;intro e w3 h;obtain⟨hM,rfl,hA3⟩:=h.ok_;have hal3:=O w3 (.cells #[.int .i32 z] 21);have HX3:=G ((HX1.out.nx hM hA3).ext hal3);have HO3:=G ((HO1.out.mv hM (fun k hk _=>MX.S_lt (by have:=HX1.out.hw;omega))).ext hal3);have HN3:=G (an w3 21 #[.int .i32 z]);clear hM hA3 h HC hal3)|(at_builtin;refine eW Ee rfl _ _ rfl (w.heap.size+1) _ j (pu vs) rfl (by have:=HO3.out;unfold jZ at this;rw[HL.out]at this;exact this) w3.heap.size [.int .i32 z] rfl HN3.out rfl (by simp[Value.oneCell']) (by omega) (by decide) (by have:=HX3.out.bk.lt;omega) ?_;intro A' cap' w4 hq1 hq2 hq3;have HO4:=G (jZ.snoc HL.out hq1);have HX4:=G (HX3.out.row hq2 (fun k e=>((World.ownsRow.lt HO3.out) k e).1) HLF.out.1 HLF.out.2);clear hq1 hq2 hq3));go_roundw
    case rel=>exact⟨j+1,some ⟨A',0,none⟩,cap',vs++[z],s2,by go_num,rfl,by omega,G (by rw[aa,HL.out];rfl),G (by have:=HNj.out;omega),HEE,HX4,HO4,G (HI.out.snoc hzi)⟩
    case measure=>simp[intOf];omega
  ·obtain rfl:j=N:=by omega
   have hlt': ¬(j:Int)<j:=by omega
   have HEE:=G (show fF (fun s l y=>st C n s l y) (C.fn nm) vs σj=Rv by rw[<-HQ.out,aF (by have:=HN.out;omega),uk];rfl);have hP: ∀W,aq wr W->Calls prog 48 #[X.p,X.fv nm, .slice B j d] W (tw X C W Rv):=fun W hE=>by
    have h1:=(HO.out.ext hE).rd;have hL:=HL.out
    have hc:=HRun.out nm σj W B d vs (HX.out.ma.ext hE) HNj.out (by
     rw[hL]
     exact h1.keep (Q:=fun b=>X.hi<=b) ⟨ah _,fun _ _ _=>rfl⟩ fun b hb _=>by have:=HX.out.hw;omega) HI.out (by omega)
    rw[hL,HEE.out]at hc;exact hc
   have HP:=G hP;clear hP;simp only[MX.p]at HP;have HMF:=G (HX.out.ma.mf.ext (jh (aR wr)));go_wp2_with fail;rcases Rv with oc|⟨z,s2⟩
   ·refine jm X 10 8 [(9,fun x=>x= .int .i32 0,fun _ _=>False)] 9 mixed (by kernel_rfl) ⟨fun _ _ _ h _=>h,trivial⟩ ⟨.inl rfl,trivial⟩ ?_
    iterate 9 (refine sx ?_ (fun w1 hU=> ?_) ?_;rotate_left;(focus have hmf:=hU.2 HMF.out;have c0:=hmf.c0;have f0:=(hU.1.un.blk HX.out.bk (MX.S_lt HX.out.hw)).cell;have f2:=hmf.look hnm;clear hU hmf;go_simp<;>with_reducible rfl);simp only[aY,aX,aW,aV,aU])
    refine bH _ _ (by rfl) rfl ⟨_,rfl⟩ rfl (fun w6 hT hp K hK=> ?_) ?_
    ·clear hp;have hc:=HP.out w6 hT.un;have HM6:=G (HX.out.mv.trans (.of_ext hT.un));clear hT;go_simp;refine hc.mono ?_;intro e w7 h;obtain⟨hM,rfl,hH⟩:=h.err_;intro a' hd;exact⟨hd,cZ (HM6.out.trans hM) rfl rfl hH⟩
    rintro _ rfl;simp only[aY,aX,aW,aV,aU];intro w8 hw8 hp;exact(hp _ (.head _)).elim
   ·refine jm X 10 8 [(9,fun x=>x= .int .i32 z,fun _ W=>MA X C s2 W)] 9 mixed (by kernel_rfl) ⟨fun _ _ _ h hE=>h.ext hE,trivial⟩ ⟨.inl rfl,trivial⟩ ?_
    iterate 9 (refine sx ?_ (fun w1 hU=> ?_) ?_;rotate_left;(focus have hmf:=hU.2 HMF.out;have c0:=hmf.c0;have f0:=(hU.1.un.blk HX.out.bk (MX.S_lt HX.out.hw)).cell;have f2:=hmf.look hnm;clear hU hmf;go_simp<;>with_reducible rfl);simp only[aY,aX,aW,aV,aU])
    refine bH _ _ (by rfl) rfl ⟨_,rfl⟩ rfl (fun w6 hT hp K hK=> ?_) ?_
    ·clear hp;have hc:=HP.out w6 hT.un;clear hT;go_simp;refine hc.mono ?_;intro e w7 h;obtain⟨hM,rfl,hA⟩:=h.ok_;exact hK _ _ (UF.of_ma hM hA) rfl hA
    rintro _ rfl;simp only[aY,aX,aW,aV,aU];intro w8 hw8 hp;have HM8:=G (HX.out.mv.trans hw8);have HA8:=G (hp _ (.head _));clear hw8 hp;simp only[ac,ap];go_wp2_with fail;go_ret;exact ec HM8.out rfl HA8.out
def gS:=@MX.S_lt
end
end Go.Proofs.YtddomeddabfinaaGreatDoor
