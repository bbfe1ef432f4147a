/-
  Parts of the proof: TyCk PaC TyAv TyN TyO TyDf TyX TyRn TyEx TySk TyRu TySv.
-/
import Derived.Test.YtddomeddabfinaaGreatDoorTp23
import Derived.Test.YtddomeddabfinaaGreatDoorTp25
import Derived.Test.YtddomeddabfinaaGreatDoorTp18
import Derived.Test.YtddomeddabfinaaGreatDoorTp17
import Derived.Test.YtddomeddabfinaaGreatDoorTp21
import Derived.Test.YtddomeddabfinaaGreatDoorTp16
import Derived.Test.YtddomeddabfinaaGreatDoorTp00
set_option maxRecDepth 100000
set_option maxHeartbeats 8000000
set_option linter.unusedVariables false
set_option linter.unusedSimpArgs false
set_option linter.defProp false
set_option linter.unusedSectionVars false
namespace Go.Proofs.YtddomeddabfinaaGreatDoor
open Go.Proofs.Tryz
section
open Go.RowKit
def gy (p:Pg):Er:=if ir p=true then(match gk p with| .ok _=>([],0)| .error e=>e)else([],1)
structure CW (w:World) (sv sf x y:Value) (W:World):Prop where
 e:au w W
 b0:aS W w.heap.size 34 #[sv,sf]
 b1:aS W (w.heap.size+1) 9 #[x]
 b2:aS W (w.heap.size+1+1) 28 #[y]
theorem CS (w:World) (sv sf x y:Value):CW w sv sf x y (((w.alloc (.cells #[sv,sf] 34)).alloc (.cells #[x] 9)).alloc (.cells #[y] 28)):=by
 refine⟨((O w _).alloc' _).alloc' _,((ap w _ _).alloc _).alloc _,?_,?_⟩
 ·have:=(ap (w.alloc (.cells #[sv,sf] 34)) 9 #[x]).alloc (.cells #[y] 28);rwa [World.size_alloc]at this
 ·have:=ap ((w.alloc (.cells #[sv,sf] 34)).alloc (.cells #[x] 9)) 28 #[y];rwa [World.size_alloc,World.size_alloc]at this
section
variable {w W W':World} {sv sf x y:Value}
theorem CW.ex (h:CW w sv sf x y W) (hE:au W W'):CW w sv sf x y W':=⟨h.e.trans hE,h.b0.ext hE,h.b1.ext hE,h.b2.ext hE⟩
theorem CW.lt (h:CW w sv sf x y W):w.heap.size+1+1<W.heap.size:=h.b2.lt
theorem CW.put (h:CW w sv sf x y W) (p q:Value):CW w sv sf p q ((W.setCell ⟨w.heap.size+1,0,none⟩ p).setCell ⟨w.heap.size+1+1,0,none⟩ q):=by
 refine⟨(h.e.set (by show w.heap.size<=w.heap.size+1;omega) _).set (by show w.heap.size<=w.heap.size+1+1;omega) _,(h.b0.far (p:=⟨w.heap.size+1,0,none⟩) (by show _≠w.heap.size+1;omega) _).far (p:=⟨w.heap.size+1+1,0,none⟩) (by show _≠w.heap.size+1+1;omega) _,?_,?_⟩
 ·have:=(h.b1.set 0 p).far (p:=⟨w.heap.size+1+1,0,none⟩) (by show _≠w.heap.size+1+1;omega) q;simpa using this
 ·have:=(h.b2.far (p:=⟨w.heap.size+1,0,none⟩) (by show _≠w.heap.size+1;omega) p).set 0 q;simpa using this
theorem CW.mv {S:Nat->Prop} (h:CW w sv sf x y W) (hM:Mv S W W') (hS: ∀k,k<=w.heap.size+1+1-> ¬S k):CW w sv sf x y W':=by
 have hl:=h.lt;have hE:au w W':=⟨hM.os.trans h.e.os,hM.tape.trans h.e.tape,hM.output.trans h.e.output,aM h.e.size hM.size,fun k hk=>(hM.block k (by omega) (hS k (by omega))).trans (h.e.obj hk)⟩
 exact⟨hE,hM.blk h.b0 (hS _ (by omega)),hM.blk h.b1 (hS _ (by omega)),hM.blk h.b2 (hS _ (by omega))⟩
theorem CW.drew (h:CW w sv sf x y W):CW w sv sf x y W.drew:=⟨h.e.drew,h.b0.drew,h.b1.drew,h.b2.drew⟩
end
theorem qZ (p0 p1:Value) (w:World):
  CallsD prog 36 #[p0,p1] .returning w fun e u' w'=>e= .returned (.tuple #[])/\u'= .returning/\w'=w:=by
 refine callsD_of_wpS func36 rfl fun c₀ cs hu=> ?_;apply wpS_seq;apply wpS_region;simp[wpOpsS,go_sem,recoverD,hu,ntmps36,Exit.thenS];apply wpS_seq;apply wpS_region;simp[wpOpsS,go_sem,Exit.thenS];refine wpS_cond (t:=false) (by simp[Act.eval]) ?_;simp only[aO,if_false];refine wpS_of_wp (wp_skip ?_)
 cases c₀;simp_all[bodyPostS,results,results36]
theorem qe (W0 w:World) (sv sf x y:Value) (nm:List UInt8) (n:Int) (older:List PanicEntry) (H:CW W0 sv sf x y w):
  CallsD prog 36 #[.pointer (some ⟨W0.heap.size+1,0,none⟩), .pointer (some ⟨W0.heap.size+1+1,0,none⟩)] (.panicking ({v:= .iface 102 (.agg #[.string (ai nm), .int .i64 n]),recovered:=false}::older)) w fun e u' w'=>
   e= .returned (.tuple #[])/\u'= .panicking ({v:= .iface 102 (.agg #[.string (ai nm), .int .i64 n]),recovered:=true}::older)/\CW W0 sv sf (.string (ai nm)) (.int .i64 n) w':=by
 have hx:=O w (.cells #[.string (ai nm), .int .i64 n] 102);have HBw:=G (ap w 102 #[.string (ai nm), .int .i64 n]);have HC:=G (H.ex hx);have hlt:=H.lt;clear hx H;refine callsD_of_wpS func36 rfl fun c₀ cs hu=> ?_;apply wpS_seq;apply wpS_region;simp[wpOpsS,go_sem,recoverD,hu,ntmps36,Exit.thenS];have hT: ∀v a b:Value,#[a,b]++((Array.replicate 18 undef).setIfInBounds 3 v).setIfInBounds 0 v= #[a,b,v,undef,undef,v,undef,undef,undef,undef,undef,undef,undef,undef,undef,undef,undef,undef,undef,undef]:=by
  intro v a b;apply jG;simp[gX]
 rw[hT];clear hT;apply wpS_seq;apply wpS_region;simp[wpOpsS,go_sem,Exit.thenS];refine wpS_cond (t:=true) (by simp[Act.eval]) ?_;simp only[if_true];refine wpS_of_wp ?_;have hta: ∀(v:Value) (xT:TypeId) (w:World),(Instr.typeAssert (.iface 102 v) xT 102 true).run prog w= .ok (.tuple #[v, .bool true]) w:=fun v xT w=>by simp[Instr.typeAssert,run_underlying underlying102]
 go_wp2_with fail;clear hta;have hb:=HBw.out.cell;have c1:=HC.out.b1.cell;have c2:=HC.out.b2.cell;have z1:=HC.out.b1.frozen;have z2:=HC.out.b2.frozen;have m1:w.heap.size≠W0.heap.size+1:=by omega
 have m2:w.heap.size≠W0.heap.size+1+1:=by omega
 have m3:W0.heap.size+1≠W0.heap.size+1+1:=by omega
 generalize w.alloc (.cells #[.string (ai nm), .int .i64 n] 102)=w5 at*;go_region;have hfin:=HC.out.put (.string (ai nm)) (.int .i64 n);refine⟨rfl,_,rfl, .tuple #[],?_,rfl,rfl,hfin.drew⟩;simp[results,results36]
theorem zh (w:World) (sv sf:Value) (ht:BT w):CK ⟨w.heap.size+1+1+1,w.heap.size,w.heap.size+1,w.heap.size+1+1,sv,sf⟩ mD (.map none) ff ((((w.alloc (.map #[] 0)).alloc (.map #[] 0)).alloc (.map #[] 0)).alloc (.cells #[sv,sf, .map (some w.heap.size), .map (some (w.heap.size+1)), .map (some (w.heap.size+1+1)), .map none] 108)):=by
 have e1:=O w (.map #[] 0);have e2:=O (w.alloc (.map #[] 0)) (.map #[] 0);have e3:=O ((w.alloc (.map #[] 0)).alloc (.map #[] 0)) (.map #[] 0);have e4:=O (((w.alloc (.map #[] 0)).alloc (.map #[] 0)).alloc (.map #[] 0)) (.cells #[sv,sf, .map (some w.heap.size), .map (some (w.heap.size+1)), .map (some (w.heap.size+1+1)), .map none] 108);have m1:=(((gB w).ext e2).ext e3).ext e4;have m2:=((gB (w.alloc (.map #[] 0))).ext e3).ext e4;have m3:=(gB ((w.alloc (.map #[] 0)).alloc (.map #[] 0))).ext e4;have b:=ap (((w.alloc (.map #[] 0)).alloc (.map #[] 0)).alloc (.map #[] 0)) 108 #[sv,sf, .map (some w.heap.size), .map (some (w.heap.size+1)), .map (some (w.heap.size+1+1)), .map none];simp only[World.size_alloc]at m1 m2 m3 b;exact⟨b,m1.congr fun s=>rfl,m2.congr fun s=>rfl,m3.congr fun s=>rfl, .inl ⟨rfl,rfl⟩,(((ht.ext e1).ext e2).ext e3).ext e4⟩
theorem pR (p:Pg) (hw:jk p<=6000000) (P:Nat->Prop) (w:World) (A B:Option Addr) (n c m d:Nat) (hV:iO w P (.slice A n c) p.vs) (hF:ja w P (.slice B m d) p.fs) (hT:dw w w.heap.size) (hB:BT w):
  Calls prog 13 #[.agg #[.slice A n c, .slice B m d]] w fun e w'=>e= .returned (.tuple #[.string (ai (gy p).1), .int .i64 (gy p).2])/\au w w':=by
 have hmm:= @run_makeMap prog;have hmf: ∀(fn:Fn) (first cap:Array Value) (w:World),(Instr.makeFunc fn first cap).run prog w= .ok (.func fn first cap) w:=fun _ _ _ _=>rfl;have HW0:=G (CS w (.slice A n c) (.slice B m d) (.string ⟨#[]⟩) (.int .i64 0));have HV:=G (hV.keep (Q:=fun b=>b<w.heap.size) ⟨ah _,fun _ _ _=>rfl⟩ (fun b h1 h2=>h2));have HF:=G (hF.keep (Q:=fun b=>b<w.heap.size) ⟨ah _,fun _ _ _=>rfl⟩ (fun b h1 h2=>h2));have HVD:=G (fun W (h:au w W)=>tU p hw (fun b=>b<w.heap.size) W A B n c m d (HV.out.keep (.of_ext h) (fun b hb _=>hb)) (HF.out.keep (.of_ext h) (fun b hb _=>hb)) (eT hT h));have HB:=G hB;have HL:=G (show gy p=if ir p=true then(match gk p with| .ok _=>([],0)| .error e=>e)else([],1)from rfl);have HAL:=G (fun(X:CB) (hX:X.Ok) hg W h1 h2 h3 h4=>xg p hw X hX hg (fun b=>b<w.heap.size) W h1 h2 h3 h4);have hg0:0<w.heap.size:=by obtain⟨t,fr,h⟩:=hB;exact(Array.getElem?_eq_some_iff.1 h).1
 clear hV hF hT hB;generalize ir p=ok at*;generalize gk p=r at*
 cases ok with
 |false=>
  have HQ:=G (show gy p=([],1)from HL.out);go_enter_defers func13,ntmps13;go_wp2_with (go_at_call 35;refine(HVD.out _ HW0.out.e).mono ?_;rintro e w1 ⟨rfl,hE⟩;have HW1:=G (HW0.out.ex hE);have c1:=HW1.out.b1.cell;have z1:=HW1.out.b1.frozen;have c2:=HW1.out.b2.cell;have z2:=HW1.out.b2.frozen;clear hE);have HW2:=G (HW1.out.put (.string ⟨#[]⟩) (.int .i64 1));have d1:=HW2.out.b1.cell;have d2:=HW2.out.b2.cell;refine⟨.tuple #[.string ⟨#[]⟩, .int .i64 1],?_,by rw[HQ.out];rfl,HW2.out.e⟩;simp[results,results13,go_sem,d1,d2]
 |true=>
  cases r with
  |ok u=>
   have HQ:=G (show gy p=([],0)from HL.out);go_enter_defers func13,ntmps13;go_wp2_with (first|(go_at_call 35;refine(HVD.out _ HW0.out.e).mono ?_;rintro e w1 ⟨rfl,hE⟩;have HW1:=G (HW0.out.ex hE);have c0:=HW1.out.b0.cell;have HK:=G (zh w1 (.slice A n c) (.slice B m d) (HB.out.ext HW1.out.e));have HE4:=G ((((O w1 (.map #[] 0)).alloc' (.map #[] 0)).alloc' (.map #[] 0)).alloc' (.cells #[.slice A n c, .slice B m d, .map (some w1.heap.size), .map (some (w1.heap.size+1)), .map (some (w1.heap.size+1+1)), .map none] 108));have hl1:=HW1.out.lt;have HW4:=G (HW1.out.ex HE4.out);clear hE)|(go_at_call 37;refine(HAL.out ⟨w1.heap.size+1+1+1,w1.heap.size,w1.heap.size+1,w1.heap.size+1+1, .slice A n c, .slice B m d⟩ ⟨by simp only;omega,by simp only;omega,by simp only;omega,by simp only;omega,by simp only;omega,by simp only;omega⟩ (by simp only;omega) _ (HV.out.keep (.of_ext HW4.out.e) (fun b hb _=>hb)) (HF.out.keep (.of_ext HW4.out.e) (fun b hb _=>hb)) (fun b hb hu=>by simp only[CB.U,CB.S]at hu;omega) HK.out).mono ?_;unfold Fb b_;rintro e w5 ⟨hM,rfl⟩;have HW5:=G (HW4.out.mv hM (fun k hk hu=>by simp only[CB.U,CB.S]at hu;omega));have c1:=HW5.out.b1.cell;have z1:=HW5.out.b1.frozen;have c2:=HW5.out.b2.cell;have z2:=HW5.out.b2.frozen;clear hM));have HW7:=G (HW5.out.put (.string ⟨#[]⟩) (.int .i64 0));refine leaves_cons (f:=36) (args:= #[.pointer (some ⟨w.heap.size+1,0,none⟩), .pointer (some ⟨w.heap.size+1+1,0,none⟩)]) (by simp) (by simp[go_sem]) ?_;refine(qZ _ _ _).mono ?_;rintro e u' w8 ⟨rfl,rfl,rfl⟩;have d1:=HW7.out.b1.cell;have d2:=HW7.out.b2.cell;refine(show Leaves _ _ _ _ [] .returning _ from ?_);refine⟨.tuple #[.string ⟨#[]⟩, .int .i64 0],?_,by rw[HQ.out];rfl,HW7.out.e⟩;simp[results,results13,go_sem,d1,d2]
  |error q=>
   obtain⟨nm,en⟩:=q;have HQ:=G (show gy p=(nm,en)from HL.out);go_enter_defers func13,ntmps13;go_wp2_with (first|(go_at_call 35;refine(HVD.out _ HW0.out.e).mono ?_;rintro e w1 ⟨rfl,hE⟩;have HW1:=G (HW0.out.ex hE);have c0:=HW1.out.b0.cell;have HK:=G (zh w1 (.slice A n c) (.slice B m d) (HB.out.ext HW1.out.e));have HE4:=G ((((O w1 (.map #[] 0)).alloc' (.map #[] 0)).alloc' (.map #[] 0)).alloc' (.cells #[.slice A n c, .slice B m d, .map (some w1.heap.size), .map (some (w1.heap.size+1)), .map (some (w1.heap.size+1+1)), .map none] 108));have hl1:=HW1.out.lt;have HW4:=G (HW1.out.ex HE4.out);clear hE)|(go_at_call 37;refine(HAL.out ⟨w1.heap.size+1+1+1,w1.heap.size,w1.heap.size+1,w1.heap.size+1+1, .slice A n c, .slice B m d⟩ ⟨by simp only;omega,by simp only;omega,by simp only;omega,by simp only;omega,by simp only;omega,by simp only;omega⟩ (by simp only;omega) _ (HV.out.keep (.of_ext HW4.out.e) (fun b hb _=>hb)) (HF.out.keep (.of_ext HW4.out.e) (fun b hb _=>hb)) (fun b hb hu=>by simp only[CB.U,CB.S]at hu;omega) HK.out).mono ?_;unfold Fb b_ bg;rintro e w5 ⟨hM,rfl⟩;have HW5:=G (HW4.out.mv hM (fun k hk hu=>by simp only[CB.U,CB.S]at hu;omega));clear hM));refine leaves_cons (f:=36) (args:= #[.pointer (some ⟨w.heap.size+1,0,none⟩), .pointer (some ⟨w.heap.size+1+1,0,none⟩)]) (by simp) (by simp[go_sem]) ?_;refine(qe w w5 _ _ _ _ nm en _ HW5.out).mono ?_;rintro e u' w8 ⟨rfl,rfl,H8⟩;have d1:=H8.b1.cell;have d2:=H8.b2.cell;refine(show Leaves _ _ _ _ [] .returning _ from ?_);refine⟨.tuple #[.string (ai nm), .int .i64 en],?_,by rw[HQ.out],H8.e⟩;simp[results,results13,go_sem,d1,d2]
end
section
open Go.RowKit
theorem CQ:iy 1=[49]:=by rw[iy];rfl
end
section
open Go.RowKit
def Cb:List UInt8:=[102,117,110,99,32,109,97,105,110,40,41,32,123,32,114,101,116,117,114,110,32,51,48,48,59,32,125]
def B_:List UInt8:=[118,97,114,32,97,91,51,93,59,32,102,117,110,99,32,109,97,105,110,40,41,32,123,32,97,91,51,93,32,61,32,49,59,32,125]
def kX:Pg:=js (.mk 1 [] [] [] 300 [])
def kf:Pg:=⟨[⟨[97],3⟩],[⟨bH,[],[.mk 3 [97] [.mk 1 [] [] [] 3 [], .mk 1 [] [] [] 1 []] [] []]⟩]⟩
def z7:List bS:=[⟨2,[102,117,110,99],0,0⟩,⟨1,[109,97,105,110],0,5⟩,⟨5,[40],0,9⟩,⟨5,[41],0,10⟩,⟨5,[123],0,12⟩,⟨2,[114,101,116,117,114,110],0,14⟩,⟨3,[],300,21⟩,⟨5,[59],0,24⟩,⟨5,[125],0,26⟩]
def zY:List bS:=[⟨2,[118,97,114],0,0⟩,⟨1,[97],0,4⟩,⟨5,[91],0,5⟩,⟨3,[],3,6⟩,⟨5,[93],0,7⟩,⟨5,[59],0,8⟩,⟨2,[102,117,110,99],0,10⟩,⟨1,[109,97,105,110],0,15⟩,⟨5,[40],0,19⟩,⟨5,[41],0,20⟩,⟨5,[123],0,22⟩,⟨1,[97],0,24⟩,⟨5,[91],0,25⟩,⟨3,[],3,26⟩,⟨5,[93],0,27⟩,⟨5,[61],0,29⟩,⟨3,[],1,31⟩,⟨5,[59],0,32⟩,⟨5,[125],0,34⟩]
theorem xk:gp Cb=(z7,0,0):=by decide+kernel
theorem xh:gp B_=(zY,0,0):=by decide+kernel
theorem xm:dh 44 lF z7= .ok (kX,[]):=by kernel_rfl
theorem xi:dh 84 lF zY= .ok (kf,[]):=by kernel_rfl
theorem za:iy 3=[51]:=by rw[iy];rfl
theorem zV:(ky kf).length<=4000:=by
 have h1:cz (.mk 1 [] [] [] 1 [])=[49]:=by
  show iy 1=[49];exact CQ
 have h3:cz (.mk 1 [] [] [] 3 [])=[51]:=by
  show iy 3=[51];exact za
 simp[ky,kf,kZ,kY,bO,dS,jN,eU,e_,jL,d7,bH,ua,lP,vu,Dq,za,h1,h3]
theorem xn:ir kX=true:=Ai (by decide) (by decide) (by decide)
theorem xj:ir kf=true:=by
 unfold ir;rw[decide_eq_true zV];decide+kernel
theorem z6:lY Cb=(kX,0,0):=by
 unfold lY;rw[xk];simp only[if_true];unfold vT;rw[show dh (4*z7.length+8) lF z7= .ok (kX,[])from xm];simp only[xn,if_true]
theorem zX:lY B_=(kf,0,0):=by
 unfold lY;rw[xh];simp only[if_true];unfold vT;rw[show dh (4*zY.length+8) lF zY= .ok (kf,[])from xi];simp only[xj,if_true]
theorem Ca:(gy kX).2=0:=by
 have:gk kX= .ok ():=Aj (fun g lo _=>by simp[nc,na,CR.then]) (by simp[dF]);unfold gy;rw[xn,this];rfl
theorem B9:(gy kf).2=0:=by
 have:gk kf= .ok ():=by kernel_rfl
 unfold gy;rw[xj,this];rfl
theorem zZ:ic kX [] 100=⟨1,0,44,0,0,[],0⟩:=by
 show xK (js (.mk 1 [] [] [] 300 [])) [] (199+1) (99+1)=_;rw[Af 199 99,CP _ 198 _ _ 300 (by decide) (by decide)];rfl
theorem zW:(ic kf [] 100).kind=2:=by kernel_rfl
theorem Dp:jk kX<=6000000:=by decide+kernel
theorem Do:jk kf<=6000000:=by decide+kernel
end
section
open Go.RowKit
theorem Fg:oR prog 123 9 59 (.agg #[.string ⟨#[]⟩, .slice none 0 0, .slice none 0 0]):=⟨underlying123,underlying9,fun w=>by kernel_rfl⟩
theorem CG:oR prog 124 9 21 (.int .i32 0):=⟨underlying124,underlying9,fun w=>by kernel_rfl⟩
theorem Fh:oR prog 125 9 40 (.slice none 0 0):=⟨underlying125,underlying9,fun w=>by kernel_rfl⟩
def jA (w:World) (P:Nat->Prop) (v:Value) (R:Rs):Prop:=
 ∃A c,v= .slice A R.length c/\(R=[]\/R.length<=c/\c<=maxLen/\ ∃b o,A=some ⟨b,o,none⟩/\P b/\b<w.heap.size/\ ∃(da:Nat->Option Addr) (dc:Nat->Nat),∀i,(h:i<R.length)->w.cell? ⟨b,o+i*2,none⟩=some (.int .i64 R[i].1)/\w.cell? ⟨b,o+i*2+1,none⟩=some (.slice (da i) R[i].2.length (dc i))/\Sl w (da i) (dc i) R[i].2/\ ∀b2 o2,da i=some ⟨b2,o2,none⟩->R[i].2≠ []->P b2)
theorem Sl.keepP {w w':World} {P:Nat->Prop} {A:Option Addr} {c:Nat} {l:List UInt8} (h:Sl w A c l) (hk:cw P w w') (hP: ∀b o,A=some ⟨b,o,none⟩->l≠ []->P b):Sl w' A c l:=by
 refine⟨h.le,h.max,h.nil,?_⟩;by_cases hl:l=[]
 ·exact .inl hl
 rcases h.rd with h0|⟨b,o,ha,hb,hc⟩
 ·exact .inl h0
 ·exact .inr ⟨b,o,ha,aA hb hk.size,fun i hi=>(hk.cell _ (hP b o ha hl) hb).trans (hc i hi)⟩
theorem jA.keep {w w':World} {P:Nat->Prop} {v:Value} {R:Rs} (h:jA w P v R) (hk:cw P w w'):jA w' P v R:=by
 obtain⟨A,c,rfl,h⟩:=h;refine⟨A,c,rfl,h.imp id fun⟨h1,h2,b,o,ha,hP,hb,da,dc,hc⟩=>⟨h1,h2,b,o,ha,hP,aA hb hk.size,da,dc,fun i hi=> ?_⟩⟩;obtain⟨q0,q1,q2,q3⟩:=hc i hi;exact⟨(hk.cell _ hP hb).trans q0,(hk.cell _ hP hb).trans q1,q2.keepP hk q3,q3⟩
structure MX where
 g:Nat
 bf:Nat
 bi:Nat
 ba:Nat
 lo:Nat
 hi:Nat
 rb:List UInt8->Nat
 fv:List UInt8->Value
 rv:Value
 al:List UInt8->Nat
 mv:Nat
abbrev MX.S (X:MX) (k:Nat):Prop:=(X.lo<=k/\k≠X.mv)/\k<X.hi
abbrev MX.P (X:MX) (k:Nat):Prop:=k<X.lo
abbrev MX.p (X:MX):Value:= .pointer (some ⟨X.g,0,none⟩)
structure MX.Ok (X:MX):Prop where
 fi:X.bf≠X.bi
 fa:X.bf≠X.ba
 ia:X.bi≠X.ba
 g:X.S X.g
 f:X.S X.bf
 i:X.S X.bi
 a:X.S X.ba
def oL (X:MX) (σ:Ms) (s:List UInt8):Value:=if σ.arrs s=[]then .slice none 0 0 else .slice (some ⟨X.rb s,0,none⟩) (σ.arrs s).length (σ.arrs s).length
def zK (l:List UInt8):Array Value:=(kL l).toArray
structure MA (X:MX) (C:Cx) (σ:Ms) (w:World):Prop where
 ok:X.Ok
 blk: ∃lf:Int,lf.toNat=σ.left/\ -9223372036854775808<=lf/\lf<=9223372036854775807/\aS w X.g 127 #[.map (some X.bf), .map (some X.bi), .map (some X.ba),X.rv, .int .i64 lf, .int .i64 (σ.stk:Int), .int .i64 0, .int .i64 0, .int .i64 0, .int .i64 0, .int .i64 0, .slice none 0 0, .int .i64 (σ.used:Int)]
 f: ∃L,bR w X.bf L/\ ∀s,(L s).getD (.agg #[.string ⟨#[]⟩, .slice none 0 0, .slice none 0 0])=X.fv s
 fr: ∀s,∃pv bv,X.fv s= .agg #[.string (ai (C.fn s).nm),pv,bv]/\lx w X.P pv (C.fn s).ps/\cL w X.P bv (C.fn s).body
 i: ∃L,bR w X.bi L/\ ∀s,(L s).getD (.int .i32 0)= .int .i32 (σ.ints s)
 a: ∃L,bR w X.ba L/\ ∀s,(L s).getD (.slice none 0 0)=oL X σ s
 row: ∀s,σ.arrs s≠ []->aS w (X.rb s) 5 (zK (σ.arrs s))/\X.S (X.rb s)/\X.rb s≠X.g/\(σ.arrs s).length<=1073741824
 inj: ∀s t,σ.arrs s≠ []->σ.arrs t≠ []->X.rb s=X.rb t->s=t
 r:jA w X.P X.rv C.R
 used:σ.used<=C.R.length
 stk:σ.stk<=1024
 rng:ko σ
 t:BT w
 t0:X.P 0
 top:X.hi<=w.heap.size
 len: ∀s,(σ.arrs s).length=X.al s
section
variable {X:MX} {C:Cx} {σ:Ms} {w w':World}
theorem MA.mv {S:Nat->Prop} (h:MA X C σ w) (hM:Mv S w w') (hS: ∀k,k<X.hi-> ¬S k):MA X C σ w':=by
 have ok:=h.ok;have ht:=h.top;have hk:cw X.P w w':=hM.keepP fun k hk _=>hS k (by have:=ok.g;simp only[MX.S,MX.P]at*;omega);obtain⟨lf,q1,q2,q3,hb⟩:=h.blk;obtain⟨L1,f1,f2⟩:=h.f;obtain⟨L2,i1,i2⟩:=h.i;obtain⟨L3,a1,a2⟩:=h.a;refine⟨ok,⟨lf,q1,q2,q3,hM.blk hb (hS _ ok.g.2)⟩,⟨L1,hM.map f1 (hS _ ok.f.2),f2⟩,fun s=> ?_,⟨L2,hM.map i1 (hS _ ok.i.2),i2⟩,⟨L3,hM.map a1 (hS _ ok.a.2),a2⟩,fun s hs=> ?_,h.inj,h.r.keep hk,h.used,h.stk,h.rng,?_,h.t0,aM h.top hM.size,h.len⟩
 ·obtain⟨pv,bv,e,p1,p2⟩:=h.fr s;exact⟨pv,bv,e,p1.keep hk (fun b hb _=>hb),p2.keep hk (fun b hb _=>hb)⟩
 ·obtain⟨r1,r2,r3⟩:=h.row s hs;exact⟨hM.blk r1 (hS _ r2.2),r2,r3⟩
 ·obtain⟨t,fr,ht⟩:=h.t;refine⟨t,fr,(hM.block _ (Array.getElem?_eq_some_iff.1 ht).1 (hS _ ?_)).trans ht⟩;have:=ok.g;have:=h.t0;simp only[MX.S,MX.P]at*;omega
theorem MA.ext (h:MA X C σ w) (he:au w w'):MA X C σ w':=h.mv (S:=fun _=>False) (.of_ext he) (fun _ _ h=>h)
end
def iY (k:Int):Ending:= .panicked [{v:= .iface 129 (.agg #[.int .i64 k]),recovered:=false}]
def gP (X:MX) (o:Oc) (w:World):Prop:=
 ∃v0 v1 v2 v3 v4 v5 A c,aS w X.g 127 #[v0,v1,v2,v3,v4,v5, .int .i64 0, .int .i64 o.call, .int .i64 o.a0, .int .i64 o.a1, .int .i64 o.a2, .slice A o.data.length c, .int .i64 (o.used:Int)]/\Sl w A c o.data/\ ∀b i,A=some ⟨b,i,none⟩->o.data≠ []->X.hi<=b
theorem MA.halt {X:MX} {C:Cx} {σ:Ms} {w:World} (h:MA X C σ w) (k:Int):gP X ⟨k,0,0,0,0,[],σ.used⟩ w:=by
 obtain⟨lf,_,_,_,hb⟩:=h.blk;exact⟨_,_,_,_,_,_,none,0,hb,kO w,fun b i e=>by cases e⟩
def BZ (X:MX) (C:Cx) (σ:Ms) (w:World) (e:Ending) (w':World):Prop:=w.grownBy w' (some X.g)/\if σ.left=0 then e=iY 3/\gP X σ.long w' else e= .returned (.tuple #[])/\MA X C σ.step w'
abbrev dP (X:MX) (lf:Int) (σ:Ms):Array Value:= #[.map (some X.bf), .map (some X.bi), .map (some X.ba),X.rv, .int .i64 lf, .int .i64 (σ.stk:Int), .int .i64 0, .int .i64 0, .int .i64 0, .int .i64 0, .int .i64 0, .slice none 0 0, .int .i64 (σ.used:Int)]
section
variable {X:MX} {C:Cx} {σ σ':Ms} {w w':World}
theorem MA.ne (h:MA X C σ w):X.bf≠X.g/\X.bi≠X.g/\X.ba≠X.g:=by
 obtain⟨lf,_,_,_,hb⟩:=h.blk;obtain⟨_,f1,_⟩:=h.f;obtain⟨_,i1,_⟩:=h.i;obtain⟨_,a1,_⟩:=h.a;exact⟨fun e=>gg hb (e▸f1),fun e=>gg hb (e▸i1),fun e=>gg hb (e▸a1)⟩
theorem MA.reg (h:MA X C σ w) (hM:w.grownBy w' (some X.g)) (lf:Int) (q1:lf.toNat=σ'.left) (q2: -9223372036854775808<=lf) (q3:lf<=9223372036854775807) (hb:aS w' X.g 127 (dP X lf σ')) (ei:σ'.ints=σ.ints) (ea:σ'.arrs=σ.arrs) (hu:σ'.used<=C.R.length) (hs:σ'.stk<=1024):MA X C σ' w':=by
 have ok:=h.ok;obtain⟨n1,n2,n3⟩:=h.ne;obtain⟨L1,f1,f2⟩:=h.f;obtain⟨L2,i1,i2⟩:=h.i;obtain⟨L3,a1,a2⟩:=h.a;have hk:cw X.P w w':= .of_grown hM (fun b hb e=>by injection e with e;subst e;have:=ok.g;simp only[MX.S,MX.P]at*;omega);refine⟨ok,⟨lf,q1,q2,q3,hb⟩,⟨L1,f1.grown hM (mE n1),f2⟩,fun s=> ?_,⟨L2,i1.grown hM (mE n2),fun s=>by rw[ei];exact i2 s⟩,⟨L3,a1.grown hM (mE n3),fun s=>by rw[a2 s];unfold oL;rw[ea]⟩,fun s hs=> ?_,fun s t=>by rw[ea];exact h.inj s t,h.r.keep hk,hu,hs,fun x=>by rw[ei];exact h.rng x,h.t.grown hM (fun e=> ?_),h.t0,aM h.top hM.size,fun s=>by rw[ea];exact h.len s⟩
 ·obtain⟨pv,bv,e,p1,p2⟩:=h.fr s;exact⟨pv,bv,e,p1.keep hk (fun b hb _=>hb),p2.keep hk (fun b hb _=>hb)⟩
 ·rw[ea]at hs⊢;obtain⟨r1,r2,r3,r4⟩:=h.row s hs;exact⟨r1.grown hM (mE r3),r2,r3,r4⟩
 ·have:=ok.g;have:=h.t0;rw[<-e]at this;simp only[MX.S,MX.P]at*;omega
theorem cm (w:World) (g i:Nat) (v:Value):w.grownBy (w.setCell ⟨g,i,none⟩ v) (some g):=⟨rfl,rfl,rfl,by simp[World.setCell],fun k _ hk=>Below.heap_setCell w _ _ k (fun e=>hk (by rw[e]))⟩
theorem MA.dec (h:MA X C σ w) {lf:Int} (hb:aS w X.g 127 (dP X lf σ)) (hl:lf.toNat=σ.left) (h0: ¬lf<=0) (q3:lf<=9223372036854775807):MA X C σ.step (w.setCell ⟨X.g,4,none⟩ (.int .i64 (lf-1))):=by
 refine h.reg (cm w X.g 4 _) (lf-1) (by show _=σ.left-1;omega) (by omega) (by omega) ?_ rfl rfl h.used h.stk;have e:(dP X lf σ).setIfInBounds 4 (.int .i64 (lf-1))=dP X (lf-1) σ.step:=rfl;rw[<-e];exact hb.set 4 _
end
theorem pF (X:MX) (C:Cx) (σ:Ms) (w:World) (h:MA X C σ w):Calls prog 162 #[X.p] w (BZ X C σ w):=by
 obtain⟨lf,q1,q2,q3,hb⟩:=h.blk;have HH:=G (h.halt 3);have hc:=hb.cell;have hf:=hb.frozen;unfold BZ;by_cases h0:lf<=0
 ·have hl:σ.left=0:=by omega
  simp only[if_pos hl];clear h hb;obtain⟨g,bf,bi,ba,lo,hi,rb,fv,rv,al,mvb⟩:=X;simp only[MX.p]at*;go_enter func162,ntmps162;go_wp2_with fail;exact⟨rfl,World.grownBy.refl _ _,rfl,HH.out⟩
 ·have hl: ¬σ.left=0:=by omega
  simp only[if_neg hl];have hw1:IntKind.i64.wrap (lf-1)=lf-1:=by simp[IntKind.wrap,IntKind.signed,IntKind.bits];omega
  have HD:=G (h.dec hb q1 h0 q3);have HG:=G (cm w X.g 4 (.int .i64 (lf-1)));clear h hb HH;obtain⟨g,bf,bi,ba,lo,hi,rb,fv,rv,al,mvb⟩:=X;simp only[MX.p]at*;go_enter func162,ntmps162;go_wp2_with fail;exact bodyPost_end (results_none rfl _ _ _) rfl ⟨HG.out,rfl,HD.out⟩
theorem mz (b:Bool) (w:World):Calls prog 188 #[.bool b] w fun e w'=>e= .returned (.int .i32 (my b))/\au w w':=by
 cases b;all_goals
  go_enter func188,ntmps188;go_wp2_with fail;go_ret;exact⟨rfl,aN _⟩
theorem w_ {a b:Int} (ha:iK a):iK (a.tmod b):=by
 unfold iK at ha⊢;have h1:(a.tmod b).natAbs<=a.natAbs:=by rw[Int.natAbs_tmod];exact Nat.mod_le _ _
 by_cases h:0<=a
 ·have:=Int.tmod_nonneg b h;omega
 ·have h2:0<=(-a).tmod b:=Int.tmod_nonneg b (by omega);rw[Int.neg_tmod]at h2;omega
def tI:ER Int->Ending
 | .ok (v,_)=> .returned (.int .i32 v)
 | .error _=>iY 2
theorem oJ (op:List UInt8) (a b:Int) (ha:iK a) (hb:iK b) (σ:Ms) (w:World):Calls prog 189 #[.string (ai op), .int .i32 a, .int .i32 b] w fun e w'=>e=tI (iD op a b σ)/\au w w':=by
 unfold iK at ha hb;have HW:=G (fun c W=>mz c W);have hwr: ∀z:Int,IntKind.i32.wrap z=lK z:=fun _=>rfl;have HX:=G (aN w);by_cases h1:op=[43]
 ·subst h1;go_enter func189,ntmps189;go_wp2_with fail;go_ret;exact⟨rfl,HX.out⟩
 by_cases h2:op=[45]
 ·subst h2;go_enter func189,ntmps189;go_wp2_with fail;go_ret;exact⟨rfl,HX.out⟩
 by_cases h3:op=[42]
 ·subst h3;go_enter func189,ntmps189;go_wp2_with fail;go_ret;exact⟨rfl,HX.out⟩
 by_cases h4:op=[47]
 ·subst h4;by_cases hb0:b=0
  ·subst hb0;go_enter func189,ntmps189;go_wp2_with fail;exact⟨rfl,rfl,HX.out⟩
  ·have hb1:=beq_eq_false_iff_ne.2 hb0;have HE:=G (show iD [47] a b σ= .ok (lK (a.tdiv b),σ) by simp[iD,hb0]);go_enter func189,ntmps189;go_wp2_with fail;go_ret;exact⟨by rw[HE.out];rfl,HX.out⟩
 by_cases h5:op=[37]
 ·subst h5;by_cases hb0:b=0
  ·subst hb0;go_enter func189,ntmps189;go_wp2_with fail;exact⟨rfl,rfl,HX.out⟩
  ·have hb1:=beq_eq_false_iff_ne.2 hb0;have HE:=G (show iD [37] a b σ= .ok (lK (a.tmod b),σ) by simp[iD,hb0]);go_enter func189,ntmps189;go_wp2_with fail;go_ret;exact⟨by rw[HE.out,wQ (w_ ha)];rfl,HX.out⟩
 by_cases h6:op=[61,61]
 ·subst h6;go_enter func189,ntmps189;go_wp2_with (go_at_call 188;refine(HW.out _ _).mono ?_;rintro e w1 ⟨rfl,hE⟩;have HX1:=G (HX.out.trans hE);clear hE);go_ret;exact⟨rfl,HX1.out⟩
 by_cases h7:op=[33,61]
 ·subst h7;go_enter func189,ntmps189;go_wp2_with (go_at_call 188;refine(HW.out _ _).mono ?_;rintro e w1 ⟨rfl,hE⟩;have HX1:=G (HX.out.trans hE);clear hE);go_ret;exact⟨rfl,HX1.out⟩
 by_cases h8:op=[60]
 ·subst h8;go_enter func189,ntmps189;go_wp2_with (go_at_call 188;refine(HW.out _ _).mono ?_;rintro e w1 ⟨rfl,hE⟩;have HX1:=G (HX.out.trans hE);clear hE);go_ret;exact⟨rfl,HX1.out⟩
 by_cases h9:op=[60,61]
 ·subst h9;go_enter func189,ntmps189;go_wp2_with (go_at_call 188;refine(HW.out _ _).mono ?_;rintro e w1 ⟨rfl,hE⟩;have HX1:=G (HX.out.trans hE);clear hE);go_ret;exact⟨rfl,HX1.out⟩
 by_cases h10:op=[62]
 ·subst h10;go_enter func189,ntmps189;go_wp2_with (go_at_call 188;refine(HW.out _ _).mono ?_;rintro e w1 ⟨rfl,hE⟩;have HX1:=G (HX.out.trans hE);clear hE);go_ret;exact⟨rfl,HX1.out⟩
 have n1:=beq_eq_false_iff_ne.2 h1;have n2:=beq_eq_false_iff_ne.2 h2;have n3:=beq_eq_false_iff_ne.2 h3;have n4:=beq_eq_false_iff_ne.2 h4;have n5:=beq_eq_false_iff_ne.2 h5;have n6:=beq_eq_false_iff_ne.2 h6;have n7:=beq_eq_false_iff_ne.2 h7;have n8:=beq_eq_false_iff_ne.2 h8;have n9:=beq_eq_false_iff_ne.2 h9;have n10:=beq_eq_false_iff_ne.2 h10
 have HE:=G (show iD op a b σ= .ok (my (decide (b<=a)),σ) by
  unfold iD
  rw[if_neg h1,if_neg h2,if_neg h3,if_neg (by simp[h4,h5]),if_neg h6,if_neg h7,if_neg h8,if_neg h9,if_neg h10])
 go_enter func189,ntmps189;go_wp2_with (go_at_call 188;refine(HW.out _ _).mono ?_;rintro e w1 ⟨rfl,hE⟩;have HX1:=G (HX.out.trans hE);clear hE);go_ret;exact⟨by rw[HE.out];rfl,HX1.out⟩
end
section
open Go.RowKit
section
variable {X:MX} {C:Cx} {σ σ':Ms} {w w':World}
theorem MA.lookA (h:MA X C σ w) {s:List UInt8} (hs:s.length<=1073741824):(Instr.lookup 125 (.map (some X.ba)) (.string (ai s)) false).run prog w= .ok (oL X σ s) w:=by
 obtain⟨L,a1,a2⟩:=h.a;rw[(a1.look Fh (by unfold maxLen;omega)).1,a2]
theorem MA.lookI (h:MA X C σ w) {s:List UInt8} (hs:s.length<=1073741824):(Instr.lookup 124 (.map (some X.bi)) (.string (ai s)) false).run prog w= .ok (.int .i32 (σ.ints s)) w:=by
 obtain⟨L,a1,a2⟩:=h.i;rw[(a1.look CG (by unfold maxLen;omega)).1,a2]
theorem MA.mcell (h:MA X C σ w): ∃lf:Int,lf.toNat=σ.left/\aS w X.g 127 (dP X lf σ):=by
 obtain⟨lf,q1,_,_,hb⟩:=h.blk;exact⟨lf,q1,hb⟩
end
def gM (X:MX) (σ:Ms) (nm:List UInt8) (i:Int):Ending:=if 0<=i/\i<(σ.arrs nm).length then .returned (.pointer (some ⟨X.rb nm,i.toNat,none⟩))else iY 2
theorem i7 (X:MX) (C:Cx) (σ:Ms) (w:World) (h:MA X C σ w) (nm:List UInt8) (hn:nm.length<=1073741824) (i:Int) (hi:iK i):
  Calls prog 166 #[X.p, .string (ai nm), .int .i32 i] w fun e w'=>e=gM X σ nm i/\au w w':=by
 have fl:=h.lookA hn;obtain⟨lf,_,hb⟩:=h.mcell;have hc:=hb.cell;have HX:=G (aN w);unfold iK at hi;have hrow:=h.row nm;clear h hb;by_cases h0:i<0
 ·have HE:=G (show gM X σ nm i=iY 2 by unfold gM;rw[if_neg (by omega)]);have h0d:decide (i<0)=true:=decide_eq_true h0;obtain⟨g,bf,bi,ba,lo,hi,rb,fv,rv,al,mvb⟩:=X;simp only[MX.p,dP]at*;generalize oL _ σ nm=av at*;go_enter func166,ntmps166;go_wp2_with fail;exact⟨rfl,by rw[HE.out];rfl,HX.out⟩
 ·obtain⟨k,rfl⟩:=cY (show 0<=i by omega);have h0d:decide ((k:Int)<0)=false:=decide_eq_false h0;have hcv:IntKind.i64.wrap (k:Int)=k:=by simp[IntKind.wrap,IntKind.signed,IntKind.bits];omega
  by_cases he:σ.arrs nm=[]
  ·have HE:=G (show gM X σ nm k=iY 2 by unfold gM;rw[he,if_neg (by simp)]);have e1:oL X σ nm= .slice none 0 0:=by unfold oL;rw[if_pos he]
   rw[e1]at fl;obtain⟨g,bf,bi,ba,lo,hi,rb,fv,rv,al,mvb⟩:=X;simp only[MX.p,dP]at*;clear hrow;go_enter func166,ntmps166;go_wp2_with fail;exact⟨rfl,by rw[HE.out];rfl,HX.out⟩
  ·have e1:oL X σ nm= .slice (some ⟨X.rb nm,0,none⟩) (σ.arrs nm).length (σ.arrs nm).length:=by unfold oL;rw[if_neg he]
   obtain⟨_,_,_,hlen⟩:=hrow he;rw[e1]at fl;obtain⟨n,hnn⟩: ∃n,(σ.arrs nm).length=n:=⟨_,rfl⟩
   rw[hnn]at fl hlen;by_cases hk:k<n
   ·have hk':(k:Int)<n:=by omega
    have HE:=G (show gM X σ nm k= .returned (.pointer (some ⟨X.rb nm,k,none⟩)) by unfold gM;rw[hnn,if_pos (by omega)];rfl);obtain⟨g,bf,bi,ba,lo,hi,rb,fv,rv,al,mvb⟩:=X;simp only[MX.p,dP]at*;clear hnn e1 hrow;go_enter func166,ntmps166;go_wp2_with fail;go_ret;exact⟨by rw[HE.out];simp,HX.out⟩
   ·have hk': ¬(k:Int)<n:=by omega
    have HE:=G (show gM X σ nm k=iY 2 by unfold gM;rw[hnn,if_neg (by omega)]);obtain⟨g,bf,bi,ba,lo,hi,rb,fv,rv,al,mvb⟩:=X;simp only[MX.p,dP]at*;clear hnn e1 hrow;go_enter func166,ntmps166;go_wp2_with fail;exact⟨rfl,by rw[HE.out];rfl,HX.out⟩
def yH (l:Lo):KF:=fun s=>(l s).map (.int .i32)
abbrev gV (lb:Nat) (ret:Option Int):Array Value:= #[.map (some lb), .bool ret.isSome, .int .i32 (ret.getD 0)]
structure FR (fb lb:Nat) (l:Lo) (ret:Option Int) (w:World):Prop where
 blk:aS w fb 182 (gV lb ret)
 m:bR w lb (yH l)
 rng:pZ l
section
variable {X:MX} {C:Cx} {σ σ':Ms} {w w':World} {fb lb:Nat} {l:Lo} {ret:Option Int}
theorem FR.ne (h:FR fb lb l ret w):lb≠fb:=fun e=>gg h.blk (e▸h.m)
theorem FR.mv {S:Nat->Prop} (h:FR fb lb l ret w) (hM:Mv S w w') (h1: ¬S fb) (h2: ¬S lb):FR fb lb l ret w':=⟨hM.blk h.blk h1,hM.map h.m h2,h.rng⟩
theorem FR.ext (h:FR fb lb l ret w) (he:au w w'):FR fb lb l ret w':=⟨h.blk.ext he,h.m.ext he,h.rng⟩
theorem FR.look (h:FR fb lb l ret w) {s:List UInt8} (hs:s.length<=1073741824):(Instr.lookup 124 (.map (some lb)) (.string (ai s)) true).run prog w= .ok (.tuple #[.int .i32 ((l s).getD 0), .bool (l s).isSome]) w:=by
 rw[(h.m.look CG (by unfold maxLen;omega)).2];simp only[yH]
 cases l s<;>rfl
theorem FR.upd {nm:List UInt8} {v:Int} (h:FR fb lb l ret w) (hv:iK v) (hm:bR w' lb ((yH l).upd nm (.int .i32 v))) (hg:w.grownBy w' (some lb)):FR fb lb (l.upd nm v) ret w':=by
 refine⟨h.blk.grown hg (mE (fA h.ne)),hm.congr fun s=> ?_,h.rng.upd hv⟩;unfold KF.upd yH Lo.upd;by_cases e:s=nm
 ·rw[if_pos e,if_pos e];rfl
 ·rw[if_neg e,if_neg e]
theorem MA.setI {nm:List UInt8} {v:Int} {L:KF} (h:MA X C σ w) (hv:iK v) (h2: ∀s,(L s).getD (.int .i32 0)= .int .i32 (σ.ints s)) (hm:bR w' X.bi (L.upd nm (.int .i32 v))) (hg:w.grownBy w' (some X.bi)):MA X C (σ.setI nm v) w':=by
 have ok:=h.ok;obtain⟨lf,q1,q2,q3,hb⟩:=h.blk;obtain⟨L1,f1,f2⟩:=h.f;obtain⟨L3,a1,a2⟩:=h.a;have hk:cw X.P w w':= .of_grown hg (fun b hb e=>by injection e with e;subst e;have:=ok.i;have:=ok.g;simp only[MX.S,MX.P]at*;omega);refine⟨ok,⟨lf,q1,q2,q3,hb.grown hg (mE (fA h.ne.2.1))⟩,⟨L1,f1.grown hg (mE ok.fi),f2⟩,fun s=> ?_,⟨_,hm,fun s=> ?_⟩,⟨L3,a1.grown hg (mE (fA ok.ia)),a2⟩,fun s hs=> ?_,h.inj,h.r.keep hk,h.used,h.stk,h.rng.setI hv,h.t.grown hg (fun e=> ?_),h.t0,aM h.top hg.size,h.len⟩
 ·obtain⟨pv,bv,e,p1,p2⟩:=h.fr s;exact⟨pv,bv,e,p1.keep hk (fun b hb _=>hb),p2.keep hk (fun b hb _=>hb)⟩
 ·show((L.upd nm (.int .i32 v)) s).getD _= .int .i32 (if s=nm then v else σ.ints s);unfold KF.upd;split
  ·rfl
  ·exact h2 s
 ·obtain⟨r1,r2,r3,r4⟩:=h.row s hs;refine⟨r1.grown hg (mE fun e=> ?_),r2,r3,r4⟩;obtain⟨_,i1,_⟩:=h.i;exact gg r1 (e▸i1)
 ·have:=ok.i;have:=h.t0;rw[<-e]at this;simp only[MX.S,MX.P]at*;omega
end
def Eg (X:MX) (C:Cx) (σ:Ms) (fb lb:Nat) (l:Lo) (ret:Option Int) (nm:List UInt8) (v:Int) (w:World) (e:Ending) (w':World):Prop:=
 e= .returned (.tuple #[])/\Mv (fun k=>k=lb\/k=X.bi) w w'/\if(l nm).isSome=true then MA X C σ w'/\FR fb lb (l.upd nm v) ret w' else MA X C (σ.setI nm v) w'/\FR fb lb l ret w'
theorem oK (X:MX) (C:Cx) (σ:Ms) (w:World) (h:MA X C σ w) (fb lb:Nat) (l:Lo) (ret:Option Int) (hF:FR fb lb l ret w) (hfl:X.hi<=fb/\X.hi<=lb) (nm:List UInt8) (hn:nm.length<=1073741824) (v:Int) (hv:iK v):
  Calls prog 165 #[X.p, .pointer (some ⟨fb,0,none⟩), .string (ai nm), .int .i32 v] w (Eg X C σ fb lb l ret nm v w):=by
 have fl:=hF.look hn;have fc:=hF.blk.cell;obtain⟨lf,_,hb⟩:=h.mcell;have hc:=hb.cell;have ok:=h.ok;unfold Eg
 cases hl:(l nm).isSome with
 |true=>
  simp only[if_true];rw[hl]at fl;have HF:=G hF;have HMv:=G (fun W (hg:w.grownBy W (some lb))=>h.mv (.of_grown (S:=fun k=>k=lb) hg (fun k e=>by injection e with e;exact e.symm)) (fun k hk e=>by have:=hfl.2;omega));clear h hF hb ok;obtain⟨g,bf,bi,ba,lo,hi,rb,fv,rv,al,mvb⟩:=X;simp only[MX.p,dP,gV]at*;generalize (l nm).getD 0=q at*;go_enter func165,ntmps165;go_wp2_with (at_mapUpdate;refine cH CG rfl _ _ _ rfl HF.out.m rfl (by unfold maxLen;omega) rfl _ rfl ?_;intro w8 hm8 hg8;have HG:=G hg8;have HF8:=G (HF.out.upd hv hm8 hg8);clear hm8 hg8);exact bodyPost_ret (results_none rfl _ _ _) rfl ⟨rfl, .of_grown HG.out (fun k e=>by injection e with e;exact .inl e.symm),HMv.out _ HG.out,HF8.out⟩
 |false=>
  simp only[aO,if_false];rw[hl]at fl;obtain⟨L,i1,i2⟩:=h.i;have HI:=G i1;have HS:=G (fun W (hm:bR W X.bi (L.upd nm (.int .i32 v))) (hg:w.grownBy W (some X.bi))=>h.setI hv i2 hm hg);have HF:=G (fun W (hg:w.grownBy W (some X.bi))=>hF.mv (.of_grown (S:=fun k=>k=X.bi) hg (fun k e=>by injection e with e;exact e.symm)) (fun e=>by have:=ok.i;have:=hfl.1;simp only[MX.S]at*;omega) (fun e=>by have:=ok.i;have:=hfl.2;simp only[MX.S]at*;omega));clear h hF hb ok i1 i2;obtain⟨g,bf,bi,ba,lo,hi,rb,fv,rv,al,mvb⟩:=X;simp only[MX.p,dP,gV]at*;generalize (l nm).getD 0=q at*;go_enter func165,ntmps165;go_wp2_with (at_mapUpdate;refine cH CG rfl _ _ _ rfl HI.out rfl (by unfold maxLen;omega) rfl _ rfl ?_;intro w8 hm8 hg8;have HG:=G hg8;have HS8:=G (HS.out _ hm8 hg8);clear hm8 hg8);exact bodyPost_end (results_none rfl _ _ _) rfl ⟨rfl, .of_grown HG.out (fun k e=>by injection e with e;exact .inr e.symm),HS8.out,HF.out _ HG.out⟩
end
section
open Go.RowKit
structure DQ (w:World) (pb fb lb:Nat) (P:Nat->Prop) (l:Lo) (ret:Option Int) (cs:Array Value) (bd el:List St) (A2 A3:Option Addr) (c2 c3:Nat) (W:World):Prop where
 gr:w.grownBy W (some lb)
 fr:FR fb lb l ret W
 bk:aS W pb 72 cs
 rb:cL W P (.slice A2 bd.length c2) bd
 rl:cL W P (.slice A3 el.length c3) el
 hP: ∀b,P b->b≠lb
 ne:lb≠pb
section
variable {w W W':World} {pb fb lb:Nat} {P:Nat->Prop} {l l':Lo} {ret:Option Int} {cs:Array Value} {bd el:List St} {A2 A3:Option Addr} {c2 c3:Nat}
theorem DQ.ext (h:DQ w pb fb lb P l ret cs bd el A2 A3 c2 c3 W) (he:au W W'):DQ w pb fb lb P l ret cs bd el A2 A3 c2 c3 W':=
 ⟨h.gr.trans (he.grownBy _),h.fr.ext he,h.bk.ext he,h.rb.keep (.of_ext he) (fun b hb _=>hb),h.rl.keep (.of_ext he) (fun b hb _=>hb),h.hP,h.ne⟩
theorem DQ.grown (h:DQ w pb fb lb P l ret cs bd el A2 A3 c2 c3 W) (hg:W.grownBy W' (some lb)) (hc:FR fb lb l' ret W'):DQ w pb fb lb P l' ret cs bd el A2 A3 c2 c3 W':=by
 have hk:cw P W W':= .of_grown hg (fun b hb e=>h.hP b hb (by injection e));exact⟨h.gr.trans hg,hc,h.bk.grown hg (fun e=>h.ne (by injection e with e;exact e.symm)),h.rb.keep hk (fun b hb _=>hb),h.rl.keep hk (fun b hb _=>hb),h.hP,h.ne⟩
end
theorem wn {l:Lo} {xs:List St} {j:Nat} (h:j<xs.length):gx l (xs.drop j)=gx (wm l xs[j]) (xs.drop (j+1)):=by
 rw[ax h,gx]
def E' (fb lb:Nat) (l:Lo) (ret:Option Int) (w:World) (e:Ending) (w':World):Prop:=e= .returned (.tuple #[])/\w.grownBy w' (some lb)/\FR fb lb l ret w'
def D7 (xs:List St):Prop:= ∀(g fb lb:Nat) (l:Lo) (ret:Option Int) (P:Nat->Prop) (w:World) (A:Option Addr) (n c:Nat),FR fb lb l ret w->cL w P (.slice A n c) xs->(∀b,P b->b≠lb)->
 Calls prog 85 #[.pointer (some ⟨g,0,none⟩), .pointer (some ⟨fb,0,none⟩), .slice A n c] w (E' fb lb (gx l xs) ret w)
theorem rU (xs:List St) (hl:xs.length<=1073741824) (hnmx: ∀s∈xs,s.nm.length<=1073741824) (hIH: ∀s∈xs,D7 s.body/\D7 s.els):D7 xs:=by
 intro g fb lb l ret P w A n c hK hR hP;obtain⟨A',c',hv,hf⟩:=hR.form;injection hv with hv1 hv2 hv3;subst hv1 hv2 hv3;have HR:=G hR;have HI:=G hIH;have HNM:=G hnmx;have HK0:=G hK;obtain⟨N,hN⟩: ∃N,xs.length=N:=⟨_,rfl⟩
 have HN:=G hN;rw[hN]at HR hl;obtain⟨Rv,hRv⟩: ∃R,gx l xs=R:=⟨_,rfl⟩
 have HQ0:=G (show gx l (xs.drop 0)=Rv from hRv);have HX0:=G (World.grownBy.refl w (some lb));clear hR hf hIH hK hnmx;rw[hN,hRv];clear hN hRv;go_enter func85,ntmps85;go_wp2_with fail
 go_loopw [10] (fun vi wr=> ∃(j:Nat) (lj:Lo),vi= .int .i64 (j:Int)/\j<=N/\Hid (gx lj (xs.drop j)=Rv)/\Hid (w.grownBy wr (some lb))/\Hid (FR fb lb lj ret wr)) (fun vi _=>N-(intOf vi).toNat)
 case atStart=>exact⟨0,l,rfl,aB _,HQ0,HX0,HK0⟩
 case round=>
  obtain⟨j,lj,rfl,hj,HQR,HX,HKj⟩:=hrel;by_cases hlt:j<N
  ·have hlt':(j:Int)<N:=by omega
   have hjl:j<xs.length:=by have:=HN.out;omega
   obtain⟨b,o,e,bv,lv,rfl,hb,hPb,h0,h1,h2,h3,h4,hRe,hRb,hRl⟩:=HR.out.at_ j hjl;have hS:=wn (l:=lj) hjl;have hnm:=HNM.out _ (aq hjl);have hII:=HI.out _ (aq hjl);obtain⟨y,hy⟩: ∃y,xs[j]=y:=⟨_,rfl⟩
   rw[hy]at h0 h1 hRe hRb hRl hS hnm hII;clear hy;obtain⟨k,nm,ex,bd,el⟩:=y;simp only[St.k,St.nm,St.ex,St.body,St.els]at h0 h1 hRe hRb hRl hnm hII;have hKP:cw P w wr:= .of_grown HX.out (fun b hb e=>hP b hb (by injection e));have e0:=(hKP.cell _ hPb hb).trans h0;have e1:=(hKP.cell _ hPb hb).trans h1;have e2:=(hKP.cell _ hPb hb).trans h2;have e3:=(hKP.cell _ hPb hb).trans h3;have e4:=(hKP.cell _ hPb hb).trans h4;obtain⟨A1,c1,rfl,_⟩:=hRe.form;obtain⟨A2,c2,rfl,_⟩:=hRb.form;obtain⟨A3,c3,rfl,_⟩:=hRl.form;have hAl:=O wr (.cells #[.int .i64 k, .string (ai nm), .slice A1 ex.length c1, .slice A2 bd.length c2, .slice A3 el.length c3] 72)
   have HQ:=G (show DQ w wr.heap.size fb lb P lj ret #[.int .i64 k, .string (ai nm), .slice A1 ex.length c1, .slice A2 bd.length c2, .slice A3 el.length c3] bd el A2 A3 c2 c3 (wr.alloc (.cells #[.int .i64 k, .string (ai nm), .slice A1 ex.length c1, .slice A2 bd.length c2, .slice A3 el.length c3] 72))from
    ⟨HX.out.trans (hAl.grownBy _),HKj.out.ext hAl,ap wr _ _,(hRb.keep hKP (Q:=P) (fun b hb _=>hb)).keep (.of_ext hAl) (fun b hb _=>hb),(hRl.keep hKP (Q:=P) (fun b hb _=>hb)).keep (.of_ext hAl) (fun b hb _=>hb),hP,lM HKj.out.m.lt⟩)
   have HB1:=G hII.1;have HL1:=G hII.2;clear h0 h1 h2 h3 h4 hRe hRb hRl hII hAl hKP HR HI HNM;rw[wm]at hS;by_cases hk1:k=1
   ·subst hk1;rw[if_pos rfl]at hS;obtain⟨l1,hl1⟩: ∃x,lj.upd nm 0=x:=⟨_,rfl⟩
    rw[hl1]at hS;have HF:=G (show gx (gx (gx l1 bd) el) (xs.drop (j+1))=Rv from hS.symm.trans HQR.out);go_wp2_with fail;refine az 6 1 [] mixed (by kernel_rfl) trivial ?_;repeat (refine sx ?_ (fun w1 hU=> ?_) ?_;rotate_left;(focus have f0:=(HQ.out.ext hU.un).bk.cell;have fk:=(HQ.out.ext hU.un).fr.blk.cell;clear hU;go_simp<;>with_reducible rfl);simp only[aY,aX,aW,aV,aU])
    intro w7 hw7 _;simp only[ac,an];replace HQ:=G (HQ.out.ext hw7.un);clear hw7;have HT1:True:=trivial;go_wp2_with (first|(at_mapUpdate;refine cH CG rfl _ _ _ rfl HQ.out.fr.m rfl (by unfold maxLen;omega) rfl _ rfl ?_;intro w8 hm8 hg8;replace HQ:=G (HQ.out.grown hg8 (HQ.out.fr.upd (by decide) hm8 hg8));rw[hl1]at HQ;clear hm8 hg8;have f0:=HQ.out.bk.cell)|(go_at_call 85;clear HT1;refine(HB1.out g fb lb l1 ret P _ A2 _ c2 HQ.out.fr HQ.out.rb hP).mono ?_;rintro e wx ⟨rfl,hg,hf⟩;replace HQ:=G (HQ.out.grown hg hf);clear hg hf;(try clear f0);have f0:=HQ.out.bk.cell)|(go_at_call 85;refine(HL1.out g fb lb (gx l1 bd) ret P _ A3 _ c3 HQ.out.fr HQ.out.rl hP).mono ?_;rintro e wx ⟨rfl,hg,hf⟩;replace HQ:=G (HQ.out.grown hg hf);clear hg hf));go_roundw
    case rel=>exact⟨j+1,_,by go_num,by omega,HF,G HQ.out.gr,G HQ.out.fr⟩
    case measure=>simp[intOf];omega
   ·rw[if_neg hk1]at hS;have HF:=G (show gx (gx (gx lj bd) el) (xs.drop (j+1))=Rv from hS.symm.trans HQR.out);have n1:=beq_eq_false_iff_ne.2 hk1;have HT1:True:=trivial;go_wp2_with (first|(go_at_call 85;clear HT1;refine(HB1.out g fb lb lj ret P _ A2 _ c2 HQ.out.fr HQ.out.rb hP).mono ?_;rintro e wx ⟨rfl,hg,hf⟩;replace HQ:=G (HQ.out.grown hg hf);clear hg hf;(try clear f0);have f0:=HQ.out.bk.cell)|(go_at_call 85;refine(HL1.out g fb lb (gx lj bd) ret P _ A3 _ c3 HQ.out.fr HQ.out.rl hP).mono ?_;rintro e wx ⟨rfl,hg,hf⟩;replace HQ:=G (HQ.out.grown hg hf);clear hg hf));go_roundw
    case rel=>exact⟨j+1,_,by go_num,by omega,HF,G HQ.out.gr,G HQ.out.fr⟩
    case measure=>simp[intOf];omega
  ·have hlt': ¬(j:Int)<N:=by omega
   have HFn:=G (show lj=Rv by
    have:=HQR.out;rw[aH (by have:=HN.out;omega),gx]at this
    exact this)
   go_wp2_with fail;exact bodyPost_end (results_none rfl _ _ _) rfl ⟨rfl,HX.out,by rw[<-HFn.out];exact HKj.out⟩
theorem lI: ∀(m:Nat) (xs:List St),eO xs<=m->eO xs<=1073741824->D7 xs
 |0,xs,h,hw=>rU xs (by have:=c_ xs;omega) (fun s hs=>by have:=bJ hs;have:=s.wt_eq;omega) (fun s hs=>by have:=bJ hs;have:=s.wt_eq;omega)
 |m+1,xs,h,hw=>rU xs (by have:=c_ xs;omega) (fun s hs=>by have:=bJ hs;have:=s.wt_eq;omega)
   (fun s hs=>⟨lI m s.body (by have:=bJ hs;have:=s.wt_eq;omega) (by have:=bJ hs;have:=s.wt_eq;omega),lI m s.els (by have:=bJ hs;have:=s.wt_eq;omega) (by have:=bJ hs;have:=s.wt_eq;omega)⟩)
end
section
section
variable (R:Rs) (k:Nat)
abbrev C_ (s:Ms):Prop:=k<=s.used/\(k<R.length->k<s.used)
def BC {α:Type} (r1 r2:ER α):Prop:=match r1 with
 | .ok (a,s)=>r2= .ok (a,s)/\s.used<=k
 | .error o=>if o.kind=1 then o.used=k/\mS (C_ R k) r2 else r2= .error o
structure ld {α:Type} (m1 m2:Ms->ER α):Prop where
 sim: ∀s,s.used<=k->BC R k (m1 s) (m2 s)
 ok: ∀s,C_ R k s->mS (C_ R k) (m2 s)
variable {R k}
theorem ld.then {α β:Type} {m1 m2:Ms->ER α} {k1 k2:α->Ms->ER β} (h:ld R k m1 m2) (hk: ∀a,ld R k (k1 a) (k2 a)):ld R k (fun s=>(m1 s).then k1) (fun s=>(m2 s).then k2):=by
 refine⟨fun s hs=> ?_,fun s hs=>(h.ok s hs).then fun a s h=>(hk a).ok s h⟩;have h1:=h.sim s hs;show BC R k ((m1 s).then k1) ((m2 s).then k2)
 cases h1s:m1 s with
 |ok p=>
  obtain⟨a,s'⟩:=p;rw[h1s]at h1;obtain⟨h2,h3⟩:=h1;rw[h2];exact(hk a).sim s' h3
 |error o=>
  rw[h1s]at h1;simp only[BC]at h1;simp only[ER.then,BC];split
  ·rename_i hk1;rw[if_pos hk1]at h1;exact⟨h1.1,h1.2.then fun a s h=>(hk a).ok s h⟩
  ·rename_i hk1;rw[if_neg hk1]at h1;rw[h1]
theorem ld.pure {α:Type} (f:Ms->α) (g:Ms->Ms) (h: ∀s,(g s).used=s.used):ld R k (fun s=> .ok (f s,g s)) (fun s=> .ok (f s,g s)):=
 ⟨fun s hs=>⟨rfl,by rw[h s];exact hs⟩,fun s hs=>by show C_ R k (g s);rw[C_,h s];exact hs⟩
theorem ld.fail {α:Type} (o:Ms->Oc) (h: ∀s,(o s).used=s.used/\(o s).kind≠1):ld R k (fun s=>(.error (o s):ER α)) (fun s=> .error (o s)):=
 ⟨fun s hs=>by simp only[BC];rw[if_neg (h s).2];trivial,fun s hs=>⟨s,hs,(h s).1⟩⟩
theorem ld.ite {α:Type} (c:Ms->Prop) [∀s,Decidable (c s)] {m1 m2 n1 n2:Ms->ER α} (h:ld R k m1 m2) (h':ld R k n1 n2):ld R k (fun s=>if c s then m1 s else n1 s) (fun s=>if c s then m2 s else n2 s):=
 ⟨fun s hs=>by show BC R k (if c s then m1 s else n1 s) (if c s then m2 s else n2 s);split;exact h.sim s hs;exact h'.sim s hs,fun s hs=>by show mS _ (if c s then m2 s else n2 s);split;exact h.ok s hs;exact h'.ok s hs⟩
theorem ld.pre {α:Type} {m1 m2:Ms->ER α} (h:ld R k m1 m2) (g:Ms->Ms) (hg: ∀s,(g s).used=s.used):ld R k (fun s=>m1 (g s)) (fun s=>m2 (g s)):=
 ⟨fun s hs=>h.sim _ (by rw[hg];exact hs),fun s hs=>h.ok _ (by rw[C_,hg];exact hs)⟩
variable (hk:k<=R.length)
include hk
theorem ny (c:Int) (a b d:Int) (l:Ms->List UInt8):ld R k (fun s=>eQ (R.take k) s c a b d (l s)) (fun s=>eQ R s c a b d (l s)):=by
 refine⟨fun s hs=> ?_,fun s hs=> ?_⟩
 ·by_cases h:s.used<k
  ·have e:(R.take k)[s.used]? =R[s.used]? :=by rw[bG,if_pos h]
   obtain⟨r,hr⟩: ∃r,R[s.used]? =some r:=⟨_,aK (by omega)⟩
   simp only[eQ,e,hr,BC];exact⟨trivial,by omega⟩
  ·have e:(R.take k)[s.used]? =none:=by rw[bG,if_neg h]
   simp only[eQ,e,BC,if_true];refine⟨by omega,?_⟩;split
   ·rename_i h2;refine⟨s,⟨by omega,fun hlt=> ?_⟩,rfl⟩;rw[List.getElem?_eq_none_iff]at h2;omega
   ·exact⟨by show k<=s.used+1;omega,fun _=>by show k<s.used+1;omega⟩
 ·show mS _ (eQ R s c a b d (l s));unfold eQ;split
  ·exact .err hs rfl
  ·exact⟨by show k<=s.used+1;omega,fun h=>by show k<s.used+1;omega⟩
omit hk in
theorem mi {E1 E2:Ms->Ex->ER Int} (hE: ∀x,ld R k (fun s=>E1 s x) (fun s=>E2 s x)): ∀(ls:List UInt8) (ys:List Ex) (vs:List Int) (la:Int) (d:Dt),ld R k (fun s=>dG E1 ls ys vs la d s) (fun s=>dG E2 ls ys vs la d s)
 |c::ls,y::ys,vs,la,d=>by
  unfold dG;split
  ·exact(hE y).then fun v=>mi hE ls ys _ _ _
  ·split
   ·exact mi hE ls ys _ _ _
   ·exact mi hE ls ys _ _ _
 | [],_,vs,la,d=>by unfold dG;exact .pure _ _ fun _=>rfl
 | _::_,[],vs,la,d=>by unfold dG;exact .pure _ _ fun _=>rfl
omit hk in
theorem xP (s:Ms) (n:Nat) (r:List UInt8): ∀d:Dt,(d.put s n r).used=s.used
 | .no=>rfl
 | .txt _=>rfl
 | .arr _=>rfl
theorem Bn {E1 E2:Ms->Ex->ER Int} (hE: ∀x,ld R k (fun s=>E1 s x) (fun s=>E2 s x)) (c:Int) (ls:List UInt8) (a:List Ex):ld R k (fun s=>mh (R.take k) E1 s c ls a) (fun s=>mh R E2 s c ls a):=by
 unfold mh;refine(mi hE ls a [] 0 .no).then fun p=> ?_;unfold mP;split
 ·exact(ny hk _ _ _ _ _).then fun r=> .pure _ _ fun _=>rfl
 ·refine .ite _ (.fail _ fun s=>⟨rfl,by simp[Ms.fails]⟩) ?_;split
  ·exact(ny hk _ _ _ _ _).then fun r=> .pure _ _ fun _=>rfl
  ·exact(ny hk _ _ _ _ (fun _=>[])).then fun r=> .pure _ _ fun s=>xP s _ _ _
omit hk in
theorem uB {E1 E2:Ms->Ex->ER Int} (hE: ∀x,ld R k (fun s=>E1 s x) (fun s=>E2 s x)): ∀(ys:List Ex) (vs:List Int),ld R k (fun s=>qS E1 vs s ys) (fun s=>qS E2 vs s ys)
 | [],vs=>by unfold qS;exact .pure _ _ fun _=>rfl
 |y::r,vs=>by unfold qS;exact(hE y).then fun v=>uB hE r _
omit hk in
theorem nA {S1 S2:Ms->Lo->St->kN} (hS: ∀l x,ld R k (fun s=>S1 s l x) (fun s=>S2 s l x)): ∀(ys:List St) (l:Lo),ld R k (fun s=>ln S1 s l ys) (fun s=>ln S2 s l ys)
 | [],l=>by unfold ln;exact .pure _ _ fun _=>rfl
 |y::r,l=>by
  unfold ln;refine(hS l y).then fun p=> ?_;split
  ·exact .pure _ _ fun _=>rfl
  ·exact nA hS r _
omit hk in
theorem r8 {S1 S2:Ms->Lo->St->kN} (hS: ∀l x,ld R k (fun s=>S1 s l x) (fun s=>S2 s l x)) (f:Fc) (vs:List Int):ld R k (fun s=>eK S1 f vs s) (fun s=>eK S2 f vs s):=by
 unfold eK;refine .ite _ (.fail _ fun s=>⟨rfl,by simp[Ms.fails]⟩) ?_;exact((nA hS f.body _).pre (fun s=>{s with stk:=s.stk+gu f}) fun _=>rfl).then fun p=> .pure _ _ fun _=>rfl
omit hk in
theorem Bq (op:List UInt8) (a b:Int):ld R k (fun s=>iD op a b s) (fun s=>iD op a b s):=by
 unfold iD;repeat' split
 all_goals first|exact .pure _ _ fun _=>rfl|exact .fail _ fun s=>⟨rfl,by simp[Ms.fails]⟩
theorem yY (fn:List UInt8->Fc): ∀n,(∀l x,ld R k (fun s=>ev ⟨fn,R.take k⟩ n s l x) (fun s=>ev ⟨fn,R⟩ n s l x))/\(∀l x,ld R k (fun s=>st ⟨fn,R.take k⟩ n s l x) (fun s=>st ⟨fn,R⟩ n s l x))/\
  (∀l c b,ld R k (fun s=>wh ⟨fn,R.take k⟩ n s l c b) (fun s=>wh ⟨fn,R⟩ n s l c b))
 |0=>⟨fun l x=>by unfold ev;exact .fail _ fun s=>⟨rfl,by simp[Ms.long]⟩,fun l x=>by unfold st;exact .fail _ fun s=>⟨rfl,by simp[Ms.long]⟩,fun l c b=>by unfold wh;exact .fail _ fun s=>⟨rfl,by simp[Ms.long]⟩⟩
 |n+1=>by
  obtain⟨h1,h2,h3⟩:=yY fn n;have hl: ∀{α:Type},ld R k (fun s=>(.error s.long:ER α)) (fun s=> .error s.long):=fun{α}=> .fail _ fun s=>⟨rfl,by simp[Ms.long]⟩
  have hf: ∀{α:Type},ld R k (fun s=>(.error s.fails:ER α)) (fun s=> .error s.fails):=fun{α}=> .fail _ fun s=>⟨rfl,by simp[Ms.fails]⟩
  refine⟨fun l x=> ?_,fun l x=> ?_,fun l c b=> ?_⟩
  ·unfold ev;refine .ite _ hl ?_;split
   ·exact .pure _ _ fun _=>rfl
   split
   ·exact .pure _ _ fun _=>rfl
   split
   ·refine((h1 l _).pre Ms.step fun _=>rfl).then fun i=> .ite _ (.pure _ _ fun _=>rfl) hf
   split
   ·split
    ·exact(Bn hk (fun x=>h1 l x) _ _ _).pre Ms.step fun _=>rfl
    ·exact((uB (fun x=>h1 l x) _ _).pre Ms.step fun _=>rfl).then fun vs=>r8 (fun l x=>h2 l x) _ _
   split
   ·refine((h1 l _).pre Ms.step fun _=>rfl).then fun i=> ?_;split<;>exact .pure _ _ fun _=>rfl
   ·refine((h1 l _).pre Ms.step fun _=>rfl).then fun i=> ?_;split
    ·exact .pure _ _ fun _=>rfl
    split
    ·exact .pure _ _ fun _=>rfl
    refine(h1 l _).then fun j=> ?_;split
    ·exact .pure _ _ fun _=>rfl
    ·exact Bq _ _ _
  ·unfold st;refine .ite _ hl ?_;split
   ·exact(h3 _ _ _).pre Ms.step fun _=>rfl
   refine ld.then (m1:=fun s=>if x.ex=[]then .ok (0,s.step)else ev ⟨fn,R.take k⟩ n s.step l (x.ex.getD 0 np)) (m2:=fun s=>if x.ex=[]then .ok (0,s.step)else ev ⟨fn,R⟩ n s.step l (x.ex.getD 0 np)) ?_ fun v=> ?_
   ·split
    ·exact .pure _ _ fun _=>rfl
    ·exact(h1 l _).pre Ms.step fun _=>rfl
   split
   ·exact .pure _ _ fun _=>rfl
   split
   ·split
    ·exact .pure _ _ fun _=>rfl
    ·exact .pure _ _ fun _=>rfl
   split
   ·refine(h1 l _).then fun u=> .ite _ (.pure _ _ fun _=>rfl) hf
   split
   ·exact nA (fun l x=>h2 l x) _ _
   split<;>exact .pure _ _ fun _=>rfl
  ·unfold wh;refine(h1 l _).then fun v=> ?_;split
   ·exact .pure _ _ fun _=>rfl
   refine(nA (fun l x=>h2 l x) _ _).then fun p=> ?_;split
   ·exact .pure _ _ fun _=>rfl
   ·exact h3 _ _ _
theorem Ag (p:Pg) (n:Nat):((ic p (R.take k) n).kind≠1->ic p R n=ic p (R.take k) n)/\
  ((ic p (R.take k) n).kind=1->(ic p (R.take k) n).used=k/\k<=(ic p R n).used/\(k<R.length->k<(ic p R n).used)):=by
 have h:=(((r8 (fun l x=>(yY hk (gL p.fs) (2*n)).2.1 l x) (gL p.fs bH) []).then (k1:=fun v s=>(eQ (R.take k) s 0 (v%256) 0 0 []).then fun _ s=>(.error s.long:ER Unit)) (k2:=fun v s=>(eQ R s 0 (v%256) 0 0 []).then fun _ s=> .error s.long)
  fun v=>(ny hk _ _ _ _ (fun _=>[])).then fun r=> .fail _ fun s=>⟨rfl,by simp[Ms.long]⟩).sim (AQ p n) (aB _))
 unfold ic xK;simp only[cx];generalize ER.then (eK (fun s l y=>st ⟨gL p.fs,R.take k⟩ (2*n) s l y) (gL p.fs bH) [] (AQ p n)) (fun v s=>(eQ (R.take k) s 0 (v%256) 0 0 []).then fun _ s=>(.error s.long:ER Unit))=r1 at h⊢;generalize ER.then (eK (fun s l y=>st ⟨gL p.fs,R⟩ (2*n) s l y) (gL p.fs bH) [] (AQ p n)) (fun v s=>(eQ R s 0 (v%256) 0 0 []).then fun _ s=>(.error s.long:ER Unit))=r2 at h⊢
 cases r1 with
 |ok q=>
  obtain⟨a,s⟩:=q;obtain⟨rfl,hs⟩:=h;exact⟨fun _=>rfl,fun h=>by simp[Ms.long]at h⟩
 |error o=>
  simp only[BC]at h;split at h
  ·rename_i h1;refine⟨fun h2=>absurd h1 h2,fun _=>⟨h.1,?_⟩⟩
   cases r2 with
   |ok q=>exact h.2
   |error o2=>
    obtain⟨s,hs,hu⟩:=h.2;rw[C_]at hs;simp only;rw[hu];exact hs
  ·rename_i h1;subst h;exact⟨fun _=>rfl,fun h2=>absurd h2 h1⟩
end
end
section
open Go.RowKit
def tO (X:MX) (C:Cx) (w:World) (r:ER Int) (e:Ending) (w':World):Prop:=Mv X.S w w'/\match r with
 | .ok (v,σ)=>e= .returned (.int .i32 v)/\MA X C σ w'
 | .error o=>e=iY o.kind/\gP X o w'
abbrev MX.T (X:MX) (fb lb:Nat) (k:Nat):Prop:=X.S k\/k=fb\/k=lb
def zz (X:MX) (C:Cx) (fb lb:Nat) (w:World) (r:kN) (e:Ending) (w':World):Prop:=Mv (X.T fb lb) w w'/\match r with
 | .ok (p,σ)=>e= .returned (.tuple #[])/\MA X C σ w'/\FR fb lb p.2 p.1 w'
 | .error o=>e=iY o.kind/\gP X o w'
def BA (X:MX) (C:Cx) (w:World) (r:ER (Int×List UInt8)) (e:Ending) (w':World):Prop:=w.grownBy w' (some X.g)/\match r with
 | .ok (p,σ)=>MA X C σ w'/\ ∃da dc,e= .returned (.agg #[.int .i64 p.1, .slice da p.2.length dc])/\Sl w' da dc p.2/\ ∀b o,da=some ⟨b,o,none⟩->p.2≠ []->X.P b
 | .error o=>e=iY o.kind/\gP X o w'
structure FI (X:MX) (fb lb:Nat) (l:Lo) (ret:Option Int) (w:World):Prop where
 fr:FR fb lb l ret w
 f:X.hi<=fb
 l:X.hi<=lb
def nk (X:MX) (C:Cx) (n:Nat) (x:Ex):Prop:= ∀(σ:Ms) (l:Lo) (fb lb:Nat) (w:World) (A:Option Addr) (c:Nat),MA X C σ w->FI X fb lb l none w->2*σ.left<=n->cJ w X.P (.slice A x.args.length c) x.args->
 Calls prog 164 #[X.p, .pointer (some ⟨fb,0,none⟩), .agg #[.int .i64 x.k, .string (ai x.op), .string (ai x.nm), .string (ai x.tx), .int .i64 x.v, .slice A x.args.length c]] w (tO X C w (ev C n σ l x))
def E6 (X:MX) (C:Cx) (n:Nat) (x:St):Prop:= ∀(σ:Ms) (l:Lo) (fb lb:Nat) (w:World) (A1 A2 A3:Option Addr) (c1 c2 c3:Nat),MA X C σ w->FI X fb lb l none w->2*σ.left<=n->
 cJ w X.P (.slice A1 x.ex.length c1) x.ex->cL w X.P (.slice A2 x.body.length c2) x.body->cL w X.P (.slice A3 x.els.length c3) x.els->
 Calls prog 130 #[X.p, .pointer (some ⟨fb,0,none⟩), .agg #[.int .i64 x.k, .string (ai x.nm), .slice A1 x.ex.length c1, .slice A2 x.body.length c2, .slice A3 x.els.length c3]] w (zz X C fb lb w (st C n σ l x))
def BB (X:MX) (C:Cx) (n:Nat) (xs:List St):Prop:= ∀(σ:Ms) (l:Lo) (fb lb:Nat) (w:World) (A:Option Addr) (c:Nat),MA X C σ w->FI X fb lb l none w->2*σ.left<=n->cL w X.P (.slice A xs.length c) xs->
 Calls prog 86 #[X.p, .pointer (some ⟨fb,0,none⟩), .slice A xs.length c] w (zz X C fb lb w (ln (fun s l y=>st C n s l y) σ l xs))
def Ef (X:MX) (C:Cx) (n:Nat):Prop:= ∀x:Ex,zG C.fn x=true->x.wt<=1073741824->nk X C n x
def Fl (X:MX) (C:Cx) (n:Nat):Prop:= ∀x:St,Cg C.fn x=true->x.wt<=1073741824->E6 X C n x
def E7 (X:MX) (C:Cx) (n:Nat):Prop:= ∀xs:List St,nZ C.fn xs=true->eO xs<=1073741824->BB X C n xs
structure Da (C:Cx):Prop where
 safe: ∀s,nZ C.fn (C.fn s).body=true
 wt: ∀s,eO (C.fn s).body<=6000000
 ps: ∀s,(C.fn s).ps.length<=6000000
 pn: ∀s,∀q∈(C.fn s).ps,q.length<=1073741824
section
variable {X:MX} {C:Cx} {σ σ':Ms} {w w':World} {fb lb:Nat} {l:Lo} {ret:Option Int}
theorem MX.S_lt {k:Nat} (h:X.hi<=k): ¬X.S k:=fun e=>by simp only[MX.S]at e;omega
theorem MX.S_P {k:Nat} (h:X.P k): ¬X.S k:=fun e=>by simp only[MX.S,MX.P]at*;omega
theorem FI.mv {S:Nat->Prop} (h:FI X fb lb l ret w) (hM:Mv S w w') (hS: ∀k,X.hi<=k->k<w.heap.size-> ¬S k):FI X fb lb l ret w':=⟨h.fr.mv hM (hS _ h.f h.fr.blk.lt) (hS _ h.l h.fr.m.lt),h.f,h.l⟩
theorem FI.ms (h:FI X fb lb l ret w) (hM:Mv X.S w w'):FI X fb lb l ret w':=h.mv hM fun k hk _=>MX.S_lt hk
theorem FI.ext (h:FI X fb lb l ret w) (he:au w w'):FI X fb lb l ret w':=⟨h.fr.ext he,h.f,h.l⟩
theorem cJ.ms {v:Value} {xs:List Ex} (h:cJ w X.P v xs) (hM:Mv X.S w w'):cJ w' X.P v xs:=h.keep (hM.keepP fun k hk _=>MX.S_P hk) fun b hb _=>hb
theorem cJ.xt {v:Value} {xs:List Ex} {P:Nat->Prop} (h:cJ w P v xs) (hM:au w w'):cJ w' P v xs:=h.keep (.of_ext hM) fun b hb _=>hb
theorem cL.xt {v:Value} {xs:List St} {P:Nat->Prop} (h:cL w P v xs) (hM:au w w'):cL w' P v xs:=h.keep (.of_ext hM) fun b hb _=>hb
theorem MX.T_P (hf:X.hi<=fb) (hl:X.hi<=lb) (ok:X.Ok) {k:Nat} (h:X.P k): ¬X.T fb lb k:=fun e=>by
 have:=ok.g;simp only[MX.T,MX.S,MX.P]at*;omega
theorem cJ.mt {v:Value} {xs:List Ex} (h:cJ w X.P v xs) (hF:FI X fb lb l ret w) (ok:X.Ok) (hM:Mv (X.T fb lb) w w'):cJ w' X.P v xs:=h.keep (hM.keepP fun k hk _=>MX.T_P hF.f hF.l ok hk) fun b hb _=>hb
theorem cL.mt {v:Value} {xs:List St} (h:cL w X.P v xs) (hF:FI X fb lb l ret w) (ok:X.Ok) (hM:Mv (X.T fb lb) w w'):cL w' X.P v xs:=h.keep (hM.keepP fun k hk _=>MX.T_P hF.f hF.l ok hk) fun b hb _=>hb
theorem Mv.ms_g (ok:X.Ok) (h:w.grownBy w' (some X.g)):Mv X.S w w':= .of_grown h fun k e=>by injection e with e;subst e;exact ok.g
theorem MA.putA {nm:List UInt8} {a:List UInt8} (h:MA X C σ w) (hn:σ.arrs nm≠ []) (hl:a.length=(σ.arrs nm).length) (hg:w.grownBy w' (some (X.rb nm))) (hb:aS w' (X.rb nm) 5 (zK a)):MA X C (σ.setA nm a) w':=by
 have ok:=h.ok;obtain⟨r1,r2,r3,r4⟩:=h.row nm hn;obtain⟨lf,q1,q2,q3,hm⟩:=h.blk;obtain⟨L1,f1,f2⟩:=h.f;obtain⟨L2,i1,i2⟩:=h.i;obtain⟨L3,a1,a2⟩:=h.a;have hne:a≠ []:=fun e=>hn (aE (by rw[<-hl,e];rfl));have ea: ∀s,(σ.setA nm a).arrs s=if s=nm then a else σ.arrs s:=fun _=>rfl;have hk:cw X.P w w':= .of_grown hg (fun b hb e=>by injection e with e;subst e;simp only[MX.S,MX.P]at*;omega);refine⟨ok,⟨lf,q1,q2,q3,hm.grown hg (mE (fA r3))⟩,⟨L1,f1.grown hg (mE fun e=>gg r1 (e▸f1)),f2⟩,fun s=> ?_,⟨L2,i1.grown hg (mE fun e=>gg r1 (e▸i1)),i2⟩,⟨L3,a1.grown hg (mE fun e=>gg r1 (e▸a1)),fun s=> ?_⟩,fun s hs=> ?_,fun s t hs ht=> ?_,h.r.keep hk,h.used,h.stk,h.rng,h.t.grown hg (fun e=> ?_),h.t0,aM h.top hg.size,fun s=> ?_⟩
 ·obtain⟨pv,bv,e,p1,p2⟩:=h.fr s;exact⟨pv,bv,e,p1.keep hk (fun b hb _=>hb),p2.keep hk (fun b hb _=>hb)⟩
 ·rw[a2 s];unfold oL;rw[ea];by_cases e:s=nm
  ·subst e;rw[if_pos rfl,if_neg hn,if_neg hne,hl]
  ·rw[if_neg e]
 ·rw[ea]at hs⊢;by_cases e:s=nm
  ·subst e;rw[if_pos rfl];exact⟨hb,r2,r3,hl▸r4⟩
  ·rw[if_neg e]at hs⊢;obtain⟨p1,p2,p3,p4⟩:=h.row s hs;exact⟨p1.grown hg (mE fun e2=>e (h.inj s nm hs hn e2)),p2,p3,p4⟩
 ·have hs': ∀s,(σ.setA nm a).arrs s≠ []->σ.arrs s≠ []:=fun s hs=>by
   rw[ea]at hs;by_cases e:s=nm
   ·subst e;exact hn
   ·rwa [if_neg e]at hs
  exact h.inj s t (hs' s hs) (hs' t ht)
 ·have q:=h.t0;rw[<-e]at q;simp only[MX.S,MX.P]at*;omega
 ·rw[ea];by_cases e:s=nm
  ·subst e;rw[if_pos rfl,hl];exact h.len s
  ·rw[if_neg e];exact h.len s
theorem MA.setA1 {nm:List UInt8} {i:Nat} {b:UInt8} (h:MA X C σ w) (hi:i<(σ.arrs nm).length):MA X C (σ.setA nm ((σ.arrs nm).set i b)) (w.setCell ⟨X.rb nm,i,none⟩ (.int .u8 (b.toNat:Int))):=by
 have hn:σ.arrs nm≠ []:=fun e=>by rw[e]at hi;simp at hi
 refine h.putA hn (by simp) (cm w _ i _) ?_;have e:zK ((σ.arrs nm).set i b)=(zK (σ.arrs nm)).setIfInBounds i (.int .u8 (b.toNat:Int)):=by
  apply jG;simp[zK,kL,zE,List.map_set]
 rw[e];exact(h.row nm hn).1.set i _
def qK (X:MX) (nm:List UInt8):Value:=if X.al nm=0 then .slice none 0 0 else .slice (some ⟨X.rb nm,0,none⟩) (X.al nm) (X.al nm)
theorem MA.arrE (h:MA X C σ w) (nm:List UInt8):oL X σ nm=qK X nm:=by
 have hl:=h.len nm;unfold oL qK;by_cases e:σ.arrs nm=[]
 ·rw[if_pos e,if_pos (by rw[<-hl,e];rfl)]
 ·rw[if_neg e,if_neg (fun e2=>e (aE (by omega))),hl]
def E_ (X:MX) (w:World) (d:Dt) (v:Value):Prop:=match d with
 | .no=>v= .slice none 0 0
 | .txt t=> ∃A c,v= .slice A t.length c/\Sl w A c t/\ ∀b o,A=some ⟨b,o,none⟩->t≠ []->X.hi<=b
 | .arr nm=>v=qK X nm
theorem Cf {g:Nat} {a:List UInt8} {t:TypeId} (h:aS w g t (zK a)) (hm:a.length<=1073741824):Sl w (some ⟨g,0,none⟩) a.length a:=
 ⟨ah _,by unfold maxLen;omega,(fun h=>by cases h), .inr ⟨g,0,rfl,h.lt,fun i hi=>by rw[aD,h.cell];simp[zK,kL,zE,hi]⟩⟩
theorem E_.sl {d:Dt} {v:Value} (hA:MA X C σ w) (h:E_ X w d v): ∃A c,v= .slice A (d.rd σ).length c/\Sl w A c (d.rd σ)/\ ∀b o,A=some ⟨b,o,none⟩->d.rd σ≠ []->b≠X.g:=by
 cases d with
 |no=>exact⟨none,0,h,kO w,fun b o e=>by cases e⟩
 |txt t=>
  obtain⟨A,c,h1,h2,h3⟩:=h;exact⟨A,c,h1,h2,fun b o e hn=>by have:=h3 b o e hn;have:=hA.ok.g;simp only[MX.S]at*;omega⟩
 |arr nm=>
  have hl:=hA.len nm;have h:v=qK X nm:=h;unfold qK at h;show ∃A c,v= .slice A (σ.arrs nm).length c/\Sl w A c (σ.arrs nm)/\ ∀b o,A=some ⟨b,o,none⟩->σ.arrs nm≠ []->b≠X.g;by_cases e:σ.arrs nm=[]
  ·rw[if_pos (by rw[<-hl,e];rfl)]at h;rw[e];exact⟨none,0,h,kO w,fun b o e=>by cases e⟩
  ·rw[if_neg (fun e2=>e (aE (by omega))),<-hl]at h;obtain⟨r1,_,r3,r4⟩:=hA.row nm e;exact⟨_,_,h,Cf r1 r4,fun b o e2 _=>by injection e2 with e2;injection e2 with e2;exact e2▸r3⟩
theorem MA.used1 (h:MA X C σ w) {lf:Int} (hb:aS w X.g 127 (dP X lf σ)) (hl:lf.toNat=σ.left) (q2: -9223372036854775808<=lf) (q3:lf<=9223372036854775807) (hu:σ.used<C.R.length):MA X C {σ with used:=σ.used+1} (w.setCell ⟨X.g,12,none⟩ (.int .i64 ((σ.used:Int)+1))):=by
 refine h.reg (cm w X.g 12 _) lf hl q2 q3 ?_ rfl rfl (by show σ.used+1<=_;omega) h.stk;have e:(dP X lf σ).setIfInBounds 12 (.int .i64 ((σ.used:Int)+1))=dP X lf {σ with used:=σ.used+1}:=rfl;rw[<-e];exact hb.set 12 _
theorem MA.stk1 (h:MA X C σ w) {lf:Int} (hb:aS w X.g 127 (dP X lf σ)) (hl:lf.toNat=σ.left) (q2: -9223372036854775808<=lf) (q3:lf<=9223372036854775807) (k:Nat) (hk:k<=1024):MA X C {σ with stk:=k} (w.setCell ⟨X.g,5,none⟩ (.int .i64 (k:Int))):=by
 refine h.reg (cm w X.g 5 _) lf hl q2 q3 ?_ rfl rfl h.used hk;have e:(dP X lf σ).setIfInBounds 5 (.int .i64 (k:Int))=dP X lf {σ with stk:=k}:=rfl;rw[<-e];exact hb.set 5 _
theorem MA.mcl (h:MA X C σ w): ∃lf:Int,lf.toNat=σ.left/\ -9223372036854775808<=lf/\lf<=9223372036854775807/\aS w X.g 127 (dP X lf σ):=h.blk
theorem FR.new (w:World):FR (w.heap.size+1) w.heap.size (fun _=>none) none ((w.alloc (.map #[] 0)).alloc (.cells (gV w.heap.size none) 182)):=by
 have e2:=O (w.alloc (.map #[] 0)) (.cells (gV w.heap.size none) 182);have b:=ap (w.alloc (.map #[] 0)) 182 (gV w.heap.size none);rw[World.size_alloc]at b;exact⟨b,((gB w).ext e2).congr fun s=>rfl,BW⟩
end
theorem jx (r:ER Int):(∃v s,r= .ok (v,s))\/ ∃o,r= .error o:=by
 rcases r with o|⟨v,s⟩
 ·exact .inr ⟨o,rfl⟩
 ·exact .inl ⟨v,s,rfl⟩
theorem tJ {E:Ms->Ex->ER Int} {ls:List UInt8} {ys:List Ex} {vs:List Int} {la:Int} {d:Dt} {s:Ms} {j:Nat} (h1:j<ls.length) (h2:j<ys.length):dG E (ls.drop j) (ys.drop j) vs la d s=
  if ls[j]=105 then(E s ys[j]).then fun v s=>dG E (ls.drop (j+1)) (ys.drop (j+1)) (vs++[v]) v d s else if ys[j].k=2 then dG E (ls.drop (j+1)) (ys.drop (j+1)) vs la (.txt ys[j].tx) s else dG E (ls.drop (j+1)) (ys.drop (j+1)) vs la (.arr ys[j].nm) s:=by
 rw[ax h1,ax h2,dG]
theorem wE {E:Ms->Ex->ER Int} {ls:List UInt8} {ys:List Ex} {vs:List Int} {la:Int} {d:Dt} {s:Ms} {j:Nat} (h1:ls.length<=j):dG E (ls.drop j) (ys.drop j) vs la d s= .ok ((vs,la,d),s):=by
 rw[aH h1,dG];intro _ _ _ _ e
 cases e
theorem xD {fn:List UInt8->Fc}: ∀(ls:List UInt8) (a:List Ex),Ch fn ls a=true-> ∀j (h:j<a.length) (h':j<ls.length),ls[j]=105->zG fn a[j]=true
 |ls,[],_,j,h,_,_=>by simp at h
 | [],y::r,_,j,_,h',_=>by simp at h'
 |c::ls,y::r,hs,0,_,_,hc=>by
  rw[Ch,ak,bN]at hs;rcases hs.1 with h|h
  ·simp at hc;simp[hc]at h
  ·exact h
 |c::ls,y::r,hs,j+1,h,h',hc=>by
  rw[Ch,ak]at hs;exact xD ls r hs.2 j (by simpa using h) (by simpa using h') (by simpa using hc)
theorem qj {fn:List UInt8->Fc} {a:List Ex} (h:wK fn a=true): ∀y∈a,zG fn y=true:=by rw[uh]at h;exact fun y hy=>List.all_eq_true.1 h y hy
theorem Ad {fn:List UInt8->Fc} {a:List St} (h:nZ fn a=true): ∀y∈a,Cg fn y=true:=by rw[rm]at h;exact fun y hy=>List.all_eq_true.1 h y hy
theorem yX {E:Ms->Ex->ER Int} {vs:List Int} {s:Ms} {ys:List Ex} {j:Nat} (h:j<ys.length):qS E vs s (ys.drop j)=(E s ys[j]).then fun v s=>qS E (vs++[v]) s (ys.drop (j+1)):=by
 rw[ax h,qS]
theorem xz {S:Ms->Lo->St->kN} {s:Ms} {l:Lo} {ys:List St} {j:Nat} (h:j<ys.length):ln S s l (ys.drop j)=(S s l ys[j]).then fun p s=>match p.1 with
  |some v=> .ok ((some v,p.2),s)
  |none=>ln S s p.2 (ys.drop (j+1)):=by
 rw[ax h,ln];rfl
theorem yy {l:Lo} {ps:List (List UInt8)} {vs:List Int} {j:Nat} (h:j<ps.length) (h':j<vs.length):sw l (ps.drop j) (vs.drop j)=sw (l.upd ps[j] vs[j]) (ps.drop (j+1)) (vs.drop (j+1)):=by
 rw[ax h,ax h',sw]
theorem AX {l:Lo} {ps:List (List UInt8)} {vs:List Int} {j:Nat} (h:ps.length<=j):sw l (ps.drop j) (vs.drop j)=l:=by
 rw[aH h];unfold sw;rfl
def aC (vs:List Int):Array Value:= #[.int .i64 (vs.getD 0 0), .int .i64 (vs.getD 1 0), .int .i64 (vs.getD 2 0)]
theorem Bz: ∀(vs:List Int) (v:Int),vs.length<3->(aC vs).setIfInBounds vs.length (.int .i64 v)=aC (vs++[v])
 | [],v,_=>rfl
 | [a],v,_=>rfl
 | [a,b],v,_=>rfl
 | _::_::_::_,v,h=>by simp at h;omega
def pL (vs:List Int):List Value:=vs.map (.int .i32)
def kn (w:World) (base:Nat) (v:Value) (vs:List Int):Prop:=w.ownsRow base 21 1 v vs.length (pL vs)
theorem ET:mR prog 179 21 1 4 (.int .i32 0):=⟨underlying179,by kernel_rfl,by rfl,by decide⟩
def zA (w:World) (P:Nat->Prop) (v:Value) (vs:List Int):Prop:=
 ∃A c,v= .slice A vs.length c/\(vs=[]\/vs.length<=c/\c<=maxLen/\ ∃b o,A=some ⟨b,o,none⟩/\P b/\b<w.heap.size/\ ∀i,(h:i<vs.length)->w.cell? ⟨b,o+i,none⟩=some (.int .i32 vs[i]))
section
variable {w w':World} {base:Nat} {v:Value} {vs:List Int}
theorem zA.nil_ (w:World) (P:Nat->Prop):zA w P (.slice none 0 0) []:=⟨none,0,rfl, .inl rfl⟩
theorem zA.keep {P Q:Nat->Prop} (h:zA w P v vs) (hk:cw P w w') (hQ: ∀b,P b->b<w.heap.size->Q b):zA w' Q v vs:=by
 obtain⟨A,c,rfl,h⟩:=h;exact⟨A,c,rfl,h.imp id fun⟨h1,h2,b,o,ha,hP,hb,hc⟩=>⟨h1,h2,b,o,ha,hQ b hP hb,aA hb hk.size,fun i hi=>(hk.cell _ hP hb).trans (hc i hi)⟩⟩
theorem kn.nil_ (w:World) (base:Nat):kn w base (.slice none 0 0) []:=World.ownsRow_nil w base 21 1
theorem kn.rd (h:kn w base v vs):zA w (fun b=>base<=b) v vs:=by
 rcases h.2 with⟨rfl,h0⟩|⟨g,cap,cur,rfl,hb,hg,hnc,hcm,hcs,ht⟩
 ·have:vs=[]:=aE h0;subst this;exact .nil_ _ _
 ·refine⟨_,cap,rfl, .inr ⟨hnc,hcm,g,0,rfl,hb,(Array.getElem?_eq_some_iff.1 hg).1,fun i hi=> ?_⟩⟩;rw[aD,cell_of_row w g i cur 21 (0,0) hg];have h3:(pL vs)[i]? =some (.int .i32 vs[i]):=by simp[pL,hi]
  rw[<-ht,bG]at h3;rw[if_pos (by omega)]at h3;simpa using h3
theorem kn.mv {S:Nat->Prop} (h:kn w base v vs) (hM:Mv S w w') (hS: ∀k,base<=k->k<w.heap.size-> ¬S k):kn w' base v vs:=fM h fun b h1 h2 _=>hM.block b h2 (hS b h1 h2)
theorem kn.ext (h:kn w base v vs) (hE:au w w'):kn w' base v vs:=fM h fun b h1 h2 _=>hE.obj h2
theorem kn.snoc {A n cap:Nat} {x:Int} (hl:vs.length=n) (hn:w'.ownsRow base 21 1 (.slice (some ⟨A,0,none⟩) (n+1) cap) (n+1) (pL vs++[.int .i32 x])):kn w' base (.slice (some ⟨A,0,none⟩) (n+1) cap) (vs++[x]):=by
 subst hl;unfold kn pL;rw[aa,eb];exact hn
end
section
variable {P:Program} {ops:Array Oper} {Q:Exit->Act->World->Prop}
theorem ef (S:Nat->Prop) {id:Nat} {a:Act} {w:World} (m f:Nat) (l:List uN) (x:Nat) (hm:P.follows .mixedOrders=true) (hok:Cv ops m a.tmps.size=true)
  (hs:jq au l) (hx:lR x (Mv S) l)
  (h:d8 P Q ops f (eA l) (some x) (fun _=>false) au (Mv S) w.drew (fun a Φ=> ∀w',Mv S w w'->(∀p∈Φ,p.2 w')->wpList P ops Q (ops.toList.drop m) a w') (ops.toList.take m) 0 a []):(Code.region id ops true).wp P Q a w:=by
 refine fd m f (eA l) (some x) au (Mv S) hm hok aN (fun _ _ _=>Mv.trans) (fun _ _ h=> .of_ext h) (fun _ _ _=>p8) hs.out hx.out ?_;exact d8.fin (fun a Φ h w' h1 h2=>h w' h1.un h2) _ _ _ _ h
end
theorem eq {X:MX} {C:Cx} {w w':World} {r:ER Int} {v:Int} {σ:Ms} (hM:Mv X.S w w') (h:r= .ok (v,σ)) (hA:MA X C σ w'):tO X C w r (.returned (.int .i32 v)) w':=by
 subst h;exact⟨hM,rfl,hA⟩
theorem dg {X:MX} {C:Cx} {w w':World} {r:ER Int} {o:Oc} {k:Int} (hM:Mv X.S w w') (h:r= .error o) (hk:o.kind=k) (hH:gP X o w'):tO X C w r (.panicked [{v:= .iface 129 (.agg #[.int .i64 k]),recovered:=false}]) w':=by
 subst h;subst hk;exact⟨hM,rfl,hH⟩
theorem tO.ok_ {X:MX} {C:Cx} {w w':World} {e:Ending} {v:Int} {σ:Ms} (h:tO X C w (.ok (v,σ)) e w'):Mv X.S w w'/\e= .returned (.int .i32 v)/\MA X C σ w':=h
theorem tO.err_ {X:MX} {C:Cx} {w w':World} {e:Ending} {o:Oc} (h:tO X C w (.error o) e w'):Mv X.S w w'/\e= .panicked [{v:= .iface 129 (.agg #[.int .i64 o.kind]),recovered:=false}]/\gP X o w':=h
theorem gS {X:MX} {C:Cx} {fb lb:Nat} {w w':World} {r:kN} {ret:Option Int} {l:Lo} {σ:Ms} (hM:Mv (X.T fb lb) w w') (h:r= .ok ((ret,l),σ)) (hA:MA X C σ w') (hF:FR fb lb l ret w'):zz X C fb lb w r (.returned (.tuple #[])) w':=by
 subst h;exact⟨hM,rfl,hA,hF⟩
theorem c7 {X:MX} {C:Cx} {fb lb:Nat} {w w':World} {r:kN} {o:Oc} {k:Int} (hM:Mv (X.T fb lb) w w') (h:r= .error o) (hk:o.kind=k) (hH:gP X o w'):zz X C fb lb w r (.panicked [{v:= .iface 129 (.agg #[.int .i64 k]),recovered:=false}]) w':=by
 subst h;subst hk;exact⟨hM,rfl,hH⟩
theorem zz.ok_ {X:MX} {C:Cx} {fb lb:Nat} {w w':World} {e:Ending} {p:Option Int×Lo} {σ:Ms} (h:zz X C fb lb w (.ok (p,σ)) e w'):Mv (X.T fb lb) w w'/\e= .returned (.tuple #[])/\MA X C σ w'/\FR fb lb p.2 p.1 w':=h
theorem zz.err_ {X:MX} {C:Cx} {fb lb:Nat} {w w':World} {e:Ending} {o:Oc} (h:zz X C fb lb w (.error o) e w'):Mv (X.T fb lb) w w'/\e= .panicked [{v:= .iface 129 (.agg #[.int .i64 o.kind]),recovered:=false}]/\gP X o w':=h
theorem ux {X:MX} {C:Cx} {σ:Ms} {w:World} (h:MA X C σ w) (hl:σ.left=0):Calls prog 162 #[X.p] w fun e w'=>e= .panicked [{v:= .iface 129 (.agg #[.int .i64 3]),recovered:=false}]/\Mv X.S w w'/\gP X σ.long w':=
 (pF X C σ w h).mono fun e w' q=>by
  obtain⟨hg,q⟩:=q;rw[if_pos hl]at q;exact⟨q.1, .ms_g h.ok hg,q.2⟩
theorem eY {X:MX} {C:Cx} {σ:Ms} {w:World} (h:MA X C σ w) (hl:σ.left≠0):Calls prog 162 #[X.p] w fun e w'=>e= .returned (.tuple #[])/\Mv X.S w w'/\MA X C σ.step w':=
 (pF X C σ w h).mono fun e w' q=>by
  obtain⟨hg,q⟩:=q;rw[if_neg hl]at q;exact⟨q.1, .ms_g h.ok hg,q.2⟩
structure EQ (X:MX) (C:Cx) (σ:Ms) (l:Lo) (fb lb:Nat) (w:World) (pb:Nat) (cs:Array Value) (v:Value) (xs:List Ex) (W:World):Prop where
 mv:Mv X.S w W
 ma:MA X C σ W
 fi:FI X fb lb l none W
 bk:aS W pb 70 cs
 re:cJ W X.P v xs
 hp:X.hi<=pb
 hw:X.hi<=w.heap.size
section
variable {X:MX} {C:Cx} {σ σ':Ms} {l:Lo} {fb lb pb:Nat} {w W W':World} {cs:Array Value} {v:Value} {xs:List Ex}
theorem jj (hA:MA X C σ w) (hF:FI X fb lb l none w) (hR:cJ w X.P v xs) (cs:Array Value):EQ X C σ l fb lb w w.heap.size cs v xs (w.alloc (.cells cs 70)):=
 ⟨.of_ext (O w _),hA.ext (O w _),hF.ext (O w _),ap w _ _,hR.xt (O w _),hA.top,hA.top⟩
theorem EQ.nx (h:EQ X C σ l fb lb w pb cs v xs W) (hM:Mv X.S W W') (hA:MA X C σ' W'):EQ X C σ' l fb lb w pb cs v xs W':=
 ⟨h.mv.trans hM,hA,h.fi.ms hM,hM.blk h.bk (MX.S_lt h.hp),h.re.ms hM,h.hp,h.hw⟩
theorem EQ.ext (h:EQ X C σ l fb lb w pb cs v xs W) (hE:au W W'):EQ X C σ l fb lb w pb cs v xs W':=h.nx (.of_ext hE) (h.ma.ext hE)
end
structure YC (w:World) (b o:Nat) (k:Int) (op nm tx:List UInt8) (v:Int) (B:Option Addr) (n d:Nat):Prop where
 c0:w.cell? ⟨b,o,none⟩=some (.int .i64 k)
 c1:w.cell? ⟨b,o+1,none⟩=some (.string (ai op))
 c2:w.cell? ⟨b,o+2,none⟩=some (.string (ai nm))
 c3:w.cell? ⟨b,o+3,none⟩=some (.string (ai tx))
 c4:w.cell? ⟨b,o+4,none⟩=some (.int .i64 v)
 c5:w.cell? ⟨b,o+5,none⟩=some (.slice B n d)
theorem YC.kp {w w':World} {P:Nat->Prop} {b o:Nat} {k:Int} {op nm tx:List UInt8} {v:Int} {B:Option Addr} {n d:Nat} (h:YC w b o k op nm tx v B n d) (hk:cw P w w') (hP:P b) (hb:b<w.heap.size):YC w' b o k op nm tx v B n d:=
 ⟨(hk.cell _ hP hb).trans h.c0,(hk.cell _ hP hb).trans h.c1,(hk.cell _ hP hb).trans h.c2,(hk.cell _ hP hb).trans h.c3,(hk.cell _ hP hb).trans h.c4,(hk.cell _ hP hb).trans h.c5⟩
theorem YC.ms {X:MX} {w w':World} {b o:Nat} {k:Int} {op nm tx:List UInt8} {v:Int} {B:Option Addr} {n d:Nat} (h:YC w b o k op nm tx v B n d) (hM:Mv X.S w w') (hP:X.P b) (hb:b<w.heap.size):YC w' b o k op nm tx v B n d:=
 h.kp (hM.keepP fun k hk _=>MX.S_P hk) hP hb
theorem cJ.yc {w:World} {P:Nat->Prop} {A:Option Addr} {n c:Nat} {xs:List Ex} (h:cJ w P (.slice A n c) xs) (i:Nat) (hi:i<xs.length):
  ∃b o B d,A=some ⟨b,o,none⟩/\b<w.heap.size/\P b/\YC w b (o+i*6) xs[i].k xs[i].op xs[i].nm xs[i].tx xs[i].v B xs[i].args.length d/\cJ w P (.slice B xs[i].args.length d) xs[i].args:=by
 obtain⟨b,o,a,rfl,hb,hP,h0,h1,h2,h3,h4,h5,hR⟩:=h.at_ i hi;obtain⟨B,d,rfl,_⟩:=hR.form;exact⟨b,o,B,d,rfl,hb,hP,⟨h0,h1,h2,h3,h4,h5⟩,hR⟩
def tP (X:MX) (C:Cx) (n:Nat) (x:Ex):Prop:= ∀(σ:Ms) (l:Lo) (fb lb:Nat) (w:World) (A:Option Addr) (c:Nat),MA X C σ w->FI X fb lb l none w->σ.left≠0->2*σ.left<=n+1->cJ w X.P (.slice A x.args.length c) x.args->
 Calls prog 164 #[X.p, .pointer (some ⟨fb,0,none⟩), .agg #[.int .i64 x.k, .string (ai x.op), .string (ai x.nm), .string (ai x.tx), .int .i64 x.v, .slice A x.args.length c]] w (tO X C w (ev C (n+1) σ l x))
end
section
open Go.RowKit
theorem uy (X:MX) (C:Cx) (n:Nat) (x:Ex) (σ:Ms) (l:Lo) (fb lb:Nat) (w:World) (A:Option Addr) (c:Nat) (hA:MA X C σ w) (hF:FI X fb lb l none w) (hl:σ.left=0) (hR:cJ w X.P (.slice A x.args.length c) x.args):
  Calls prog 164 #[X.p, .pointer (some ⟨fb,0,none⟩), .agg #[.int .i64 x.k, .string (ai x.op), .string (ai x.nm), .string (ai x.tx), .int .i64 x.v, .slice A x.args.length c]] w (tO X C w (ev C n σ l x)):=by
 have HE:=G (show ev C n σ l x= .error σ.long by cases n with|zero=>rw[ev]|succ n=>rw[ev,if_pos hl]);obtain⟨k,op,nm,tx,v,xs⟩:=x;simp only[Ex.k,Ex.op,Ex.nm,Ex.tx,Ex.v,Ex.args]at hR⊢;obtain⟨N,hN⟩: ∃N,xs.length=N:=⟨_,rfl⟩
 rw[hN]at hR⊢;have HQ0:=G (jj hA hF hR #[.int .i64 k, .string (ai op), .string (ai nm), .string (ai tx), .int .i64 v, .slice A N c]);have HS:=G (ux HQ0.out.ma hl);clear hA hF hR hN;simp only[MX.p]at*;go_enter func164,ntmps164;go_wp2_with (go_at_call 162;refine HS.out.mono ?_;rintro e w1 ⟨rfl,hM,hH⟩;have HM1:=G (HQ0.out.mv.trans hM);have HH:=G hH;clear hM hH);exact⟨rfl,dg HM1.out HE.out rfl HH.out⟩
theorem AW (X:MX) (C:Cx) (n:Nat) (op nm tx:List UInt8) (v:Int) (xs:List Ex):tP X C n (.mk 1 op nm tx v xs):=by
 intro σ l fb lb w A c hA hF hl hn hR;simp only[Ex.k,Ex.op,Ex.nm,Ex.tx,Ex.v,Ex.args]at hR⊢;have hn1:2*σ.step.left<=n:=by show 2*(σ.left-1)<=n;omega
 obtain⟨N,hN⟩: ∃N,(xs).length=N:=⟨_,rfl⟩
 rw[hN]at hR⊢;have hwr: ∀z:Int,IntKind.i32.wrap z=lK z:=fun _=>rfl;have HQ0:=G (jj hA hF hR #[.int .i64 1, .string (ai op), .string (ai nm), .string (ai tx), .int .i64 v, .slice A N c]);have HS:=G (eY HQ0.out.ma hl);have HE:=G (BY (C:=C) (n:=n) (l:=l) (op:=op) (nm:=nm) (tx:=tx) (v:=v) (a:=xs) hl);clear hA hF hR hN;simp only[MX.p]at*;go_enter func164,ntmps164;go_wp2_with (go_at_call 162;refine HS.out.mono ?_;rintro e w1 ⟨rfl,hM,hA1⟩;have HQ1:=G (HQ0.out.nx hM hA1);have f0:=HQ1.out.bk.cell;clear hM hA1 HS HQ0);go_ret;exact eq HQ1.out.mv HE.out HQ1.out.ma
theorem AV (X:MX) (C:Cx) (n:Nat) (op nm tx:List UInt8) (v:Int) (xs:List Ex) (hnm:nm.length<=1073741824):tP X C n (.mk 3 op nm tx v xs):=by
 intro σ l fb lb w A c hA hF hl hn hR;simp only[Ex.k,Ex.op,Ex.nm,Ex.tx,Ex.v,Ex.args]at hR⊢;have hn1:2*σ.step.left<=n:=by show 2*(σ.left-1)<=n;omega
 obtain⟨N,hN⟩: ∃N,(xs).length=N:=⟨_,rfl⟩
 rw[hN]at hR⊢;have hwr: ∀z:Int,IntKind.i32.wrap z=lK z:=fun _=>rfl;have HQ0:=G (jj hA hF hR #[.int .i64 3, .string (ai op), .string (ai nm), .string (ai tx), .int .i64 v, .slice A N c]);have HS:=G (eY HQ0.out.ma hl);have hE:=DU (C:=C) (n:=n) (l:=l) (op:=op) (nm:=nm) (tx:=tx) (v:=v) (a:=xs) hl;clear hA hF hR hN
 cases hq:l nm with
 |some z=>
  have HE:=G (show ev C (n+1) σ l (.mk 3 op nm tx v xs)= .ok (z,σ.step) by rw[hE,hq];rfl);clear hE;simp only[MX.p]at*;go_enter func164,ntmps164;go_wp2_with (go_at_call 162;refine HS.out.mono ?_;rintro e w1 ⟨rfl,hM,hA1⟩;have HQ1:=G (HQ0.out.nx hM hA1);have f0:=HQ1.out.bk.cell;clear hM hA1 HS HQ0);refine az 12 1 [] mixed (by kernel_rfl) trivial ?_;repeat (refine sx ?_ (fun w1 hU=> ?_) ?_;rotate_left;(focus have f0:=(HQ1.out.ext hU.un).bk.cell;have fk:=(HQ1.out.ext hU.un).fi.fr.blk.cell;have f2:=(HQ1.out.ext hU.un).fi.fr.look hnm;rw[hq]at f2;simp only[bC,cK]at f2;clear hU;go_simp<;>with_reducible rfl);simp only[aY,aX,aW,aV,aU])
  intro w7 hw7 _;simp only[ac,aL];have HQ2:=G (HQ1.out.ext hw7.un);clear hw7 f0;go_wp2_with fail;go_ret;exact eq HQ2.out.mv HE.out HQ2.out.ma
 |none=>
  have HE:=G (show ev C (n+1) σ l (.mk 3 op nm tx v xs)= .ok (σ.ints nm,σ.step) by rw[hE,hq];rfl);clear hE;simp only[MX.p]at*;go_enter func164,ntmps164;go_wp2_with (go_at_call 162;refine HS.out.mono ?_;rintro e w1 ⟨rfl,hM,hA1⟩;have HQ1:=G (HQ0.out.nx hM hA1);have f0:=HQ1.out.bk.cell;clear hM hA1 HS HQ0);refine az 12 1 [] mixed (by kernel_rfl) trivial ?_;repeat (refine sx ?_ (fun w1 hU=> ?_) ?_;rotate_left;(focus have f0:=(HQ1.out.ext hU.un).bk.cell;have fk:=(HQ1.out.ext hU.un).fi.fr.blk.cell;have f2:=(HQ1.out.ext hU.un).fi.fr.look hnm;rw[hq]at f2;simp only[dT,cW]at f2;clear hU;go_simp<;>with_reducible rfl);simp only[aY,aX,aW,aV,aU])
  intro w7 hw7 _;simp only[ac,aL];have HQ2:=G (HQ1.out.ext hw7.un);clear hw7 f0 HQ1;obtain⟨lf,_,_,_,hmb⟩:=HQ2.out.ma.mcl;have HMB:=G hmb;clear hmb;go_wp2_with fail;refine az 8 1 [] mixed (by kernel_rfl) trivial ?_;repeat (refine sx ?_ (fun w1 hU=> ?_) ?_;rotate_left;(focus have f0:=(HQ2.out.ext hU.un).bk.cell;have fk:=(HMB.out.ext hU.un).cell;have f2:=(HQ2.out.ext hU.un).ma.lookI hnm;clear hU;go_simp<;>with_reducible rfl);simp only[aY,aX,aW,aV,aU])
  intro w8 hw8 _;simp only[ac,aL];have HQ3:=G (HQ2.out.ext hw8.un);clear hw8;go_wp2_with fail;go_ret;exact eq HQ3.out.mv HE.out HQ3.out.ma
theorem AS (X:MX) (C:Cx) (n:Nat) (op nm tx:List UInt8) (v:Int) (y:Ex) (ys:List Ex) (hy:nk X C n y):tP X C n (.mk 6 op nm tx v (y::ys)):=by
 intro σ l fb lb w A c hA hF hl hn hR;simp only[Ex.k,Ex.op,Ex.nm,Ex.tx,Ex.v,Ex.args]at hR⊢;have hn1:2*σ.step.left<=n:=by show 2*(σ.left-1)<=n;omega
 obtain⟨N,hN⟩: ∃N,(y::ys).length=N:=⟨_,rfl⟩
 rw[hN]at hR⊢;have hwr: ∀z:Int,IntKind.i32.wrap z=lK z:=fun _=>rfl;have HQ0:=G (jj hA hF hR #[.int .i64 6, .string (ai op), .string (ai nm), .string (ai tx), .int .i64 v, .slice A N c]);have HS:=G (eY HQ0.out.ma hl);have hE:=DR (C:=C) (n:=n) (l:=l) (op:=op) (nm:=nm) (tx:=tx) (v:=v) (a:=y::ys) hl;rw[show(y::ys).getD 0 np=y from rfl]at hE;obtain⟨b,o,B,d,hAq,hb,hPb,hY,hRy⟩:=hR.yc 0 (by simp);subst hAq;have hN0:0<N:=by rw[<-hN];simp
 have hN0':(0:Int)<(N:Int):=by omega
 simp only[aG,a_,bA]at hY hRy;obtain⟨k2,op2,nm2,tx2,v2,as2⟩:=y;have HV:=G hy;unfold nk at HV;simp only[Ex.k,Ex.op,Ex.nm,Ex.tx,Ex.v,Ex.args]at hY hRy HV;have HY:=G hY;have HRy:=G hRy;clear hA hF hR hN hY hRy hy;have HT1:True:=trivial;have HW:=G (fun c W=>mz c W);rcases jx (ev C n σ.step l (Ex.mk k2 op2 nm2 tx2 v2 as2))with⟨i,s1,hr⟩|⟨oc,hr⟩
 ·rw[hr,fq]at hE;have hrl:=hn1;by_cases h33:op=[33]
  ·subst h33;rw[if_pos rfl]at hE;have HE:=G hE;clear hE;simp only[MX.p]at*;go_enter func164,ntmps164;go_wp2_with (first|(go_at_call 162;refine HS.out.mono ?_;rintro e w1 ⟨rfl,hM,hA1⟩;have HQ1:=G (HQ0.out.nx hM hA1);have f0:=HQ1.out.bk.cell;obtain⟨e0,e1,e2,e3,e4,e5⟩:=HY.out.ms HQ1.out.mv hPb hb;clear hM hA1 HS HQ0)|(go_at_call 164;clear HT1;refine(HV.out σ.step l fb lb _ B d HQ1.out.ma HQ1.out.fi (hrl) (HRy.out.ms HQ1.out.mv)).mono ?_;intro e w2 h;rw[hr]at h;obtain⟨hM,rfl,hA2⟩:=h.ok_;have HQ2:=G (HQ1.out.nx hM hA2);have f0:=HQ2.out.bk.cell;clear e0 e1 e2 e3 e4 e5;clear hM hA2)|(go_at_call 188;refine(HW.out _ _).mono ?_;rintro e w3 ⟨rfl,hE3⟩;have HQ3:=G (HQ2.out.ext hE3);clear hE3));go_ret;exact eq HQ3.out.mv HE.out HQ3.out.ma
  ·rw[if_neg h33]at hE;have HE:=G hE;have h33b:=beq_eq_false_iff_ne.2 h33;clear hE;simp only[MX.p]at*;go_enter func164,ntmps164;go_wp2_with (first|(go_at_call 162;refine HS.out.mono ?_;rintro e w1 ⟨rfl,hM,hA1⟩;have HQ1:=G (HQ0.out.nx hM hA1);have f0:=HQ1.out.bk.cell;obtain⟨e0,e1,e2,e3,e4,e5⟩:=HY.out.ms HQ1.out.mv hPb hb;clear hM hA1 HS HQ0)|(go_at_call 164;clear HT1;refine(HV.out σ.step l fb lb _ B d HQ1.out.ma HQ1.out.fi (hrl) (HRy.out.ms HQ1.out.mv)).mono ?_;intro e w2 h;rw[hr]at h;obtain⟨hM,rfl,hA2⟩:=h.ok_;have HQ2:=G (HQ1.out.nx hM hA2);have f0:=HQ2.out.bk.cell;clear e0 e1 e2 e3 e4 e5;clear hM hA2));go_ret;exact eq HQ2.out.mv HE.out HQ2.out.ma
 ·rw[hr,et]at hE;have hrl:=hn1;have HE:=G hE;clear hE;simp only[MX.p]at*;go_enter func164,ntmps164;go_wp2_with (first|(go_at_call 162;refine HS.out.mono ?_;rintro e w1 ⟨rfl,hM,hA1⟩;have HQ1:=G (HQ0.out.nx hM hA1);have f0:=HQ1.out.bk.cell;obtain⟨e0,e1,e2,e3,e4,e5⟩:=HY.out.ms HQ1.out.mv hPb hb;clear hM hA1 HS HQ0)|(go_at_call 164;clear HT1;refine(HV.out σ.step l fb lb _ B d HQ1.out.ma HQ1.out.fi (hrl) (HRy.out.ms HQ1.out.mv)).mono ?_;intro e w2 h;rw[hr]at h;obtain⟨hM,rfl,hH⟩:=h.err_;have HMx:=G (HQ1.out.mv.trans hM);have HH:=G hH;clear hM hH));exact⟨rfl,dg HMx.out HE.out rfl HH.out⟩
end
section
def pX {α:Type} (k:Nat) (r:ER α):Prop:=match r with
 | .ok (_,s)=>s.stk=k
 | .error _=>True
theorem pX.then {α β:Type} {k k':Nat} {r:ER α} {f:α->Ms->ER β} (h:pX k r) (hf: ∀a s,s.stk=k->pX k' (f a s)):pX k' (r.then f):=by
 cases r with
 |error o=>exact trivial
 |ok p=>exact hf _ _ h
theorem qg {R:Rs} {s:Ms} {c a b d:Int} {l:List UInt8} {k:Nat} (h:s.stk=k):pX k (eQ R s c a b d l):=by
 unfold eQ;split
 ·exact trivial
 ·exact h
theorem mm {E:Ms->Ex->ER Int} {k:Nat} (hE: ∀s x,s.stk=k->pX k (E s x)): ∀(ls:List UInt8) (ys:List Ex) (vs:List Int) (la:Int) (d:Dt) (s:Ms),s.stk=k->pX k (dG E ls ys vs la d s)
 |c::ls,y::ys,vs,la,d,s,h=>by
  rw[dG];split
  ·exact(hE s y h).then fun v s h=>mm hE ls ys _ _ _ s h
  ·split
   ·exact mm hE ls ys _ _ _ s h
   ·exact mm hE ls ys _ _ _ s h
 | [],_,vs,la,d,s,h=>by unfold dG;exact h
 | _::_,[],vs,la,d,s,h=>by unfold dG;exact h
theorem Aq {s:Ms} {n:Nat} {r:List UInt8}: ∀d:Dt,(d.put s n r).stk=s.stk
 | .no=>rfl
 | .txt _=>rfl
 | .arr _=>rfl
theorem Bo {R:Rs} {E:Ms->Ex->ER Int} {k:Nat} (hE: ∀s x,s.stk=k->pX k (E s x)) (c:Int) (ls:List UInt8) (a:List Ex) (s:Ms) (h:s.stk=k):pX k (mh R E s c ls a):=by
 unfold mh mP;refine(mm hE ls a [] 0 .no s h).then fun p s h=> ?_;split
 ·exact(qg h).then fun r s h=>h
 ·split
  ·exact trivial
  ·split
   ·exact(qg h).then fun r s h=>h
   ·exact(qg h).then fun r s h=>(Aq _).trans h
theorem uC {E:Ms->Ex->ER Int} {k:Nat} (hE: ∀s x,s.stk=k->pX k (E s x)): ∀(ys:List Ex) (vs:List Int) (s:Ms),s.stk=k->pX k (qS E vs s ys)
 | [],vs,s,h=>h
 |y::r,vs,s,h=>(hE s y h).then fun v s h=>uC hE r _ s h
theorem lS {S:Ms->Lo->St->kN} {k:Nat} (hS: ∀s l x,s.stk=k->pX k (S s l x)): ∀(ys:List St) (l:Lo) (s:Ms),s.stk=k->pX k (ln S s l ys)
 | [],l,s,h=>h
 |y::r,l,s,h=>by
  rw[ln];refine(hS s l y h).then fun p s h=> ?_;split
  ·exact h
  ·exact lS hS r _ s h
theorem Bm {S:Ms->Lo->St->kN} (hS: ∀k s l x,s.stk=k->pX k (S s l x)) (f:Fc) (vs:List Int) (s:Ms) {k:Nat} (h:s.stk=k):pX k (eK S f vs s):=by
 unfold eK;split
 ·exact trivial
 ·refine(lS (k:=s.stk+gu f) (fun s l x h=>hS _ s l x h) f.body _ _ rfl).then fun p s' h'=> ?_;show s'.stk-gu f=k;omega
theorem Br (op:List UInt8) (a b:Int) (s:Ms) {k:Nat} (h:s.stk=k):pX k (iD op a b s):=by
 unfold iD;repeat' split
 all_goals first|exact h|exact trivial
theorem yZ (C:Cx): ∀n,(∀k s l x,s.stk=k->pX k (ev C n s l x))/\(∀k s l x,s.stk=k->pX k (st C n s l x))/\(∀k s l c b,s.stk=k->pX k (wh C n s l c b))
 |0=>⟨fun k s l x h=>(by rw[ev];exact trivial),fun k s l x h=>(by rw[st];exact trivial),fun k s l c b h=>(by rw[wh];exact trivial)⟩
 |n+1=>by
  obtain⟨h1,h2,h3⟩:=yZ C n;refine⟨fun k s l x h=> ?_,fun k s l x h=> ?_,fun k s l c b h=> ?_⟩
  ·have h':s.step.stk=k:=h;rw[ev];split
   ·exact trivial
   split
   ·exact h'
   split
   ·exact h'
   split
   ·refine(h1 k _ l _ h').then fun i s h=> ?_;split
    ·exact h
    ·exact trivial
   split
   ·split
    ·exact Bo (fun s x h=>h1 k s l x h) _ _ _ _ h'
    ·exact(uC (fun s x h=>h1 k s l x h) _ _ _ h').then fun vs s h=>Bm (fun k s l x h=>h2 k s l x h) _ _ _ h
   split
   ·refine(h1 k _ l _ h').then fun i s h=> ?_;split<;>exact h
   ·refine(h1 k _ l _ h').then fun i s h=> ?_;split
    ·exact h
    split
    ·exact h
    refine(h1 k _ l _ h).then fun j s h=> ?_;split
    ·exact h
    ·exact Br _ _ _ _ h
  ·have h':s.step.stk=k:=h;rw[st];split
   ·exact trivial
   split
   ·exact h3 k _ _ _ _ h'
   refine pX.then (k:=k) (by split;exact h';exact h1 k _ _ _ h') fun v s h=> ?_;split
   ·exact h
   split
   ·split
    ·exact h
    ·exact h
   split
   ·refine(h1 k _ l _ h).then fun u s h=> ?_;split
    ·exact h
    ·exact trivial
   split
   ·exact lS (fun s l x h=>h2 k s l x h) _ _ _ h
   split<;>exact h
  ·rw[wh];refine(h1 k _ l _ h).then fun v s h=> ?_;split
   ·exact h
   refine(lS (fun s l x h=>h2 k s l x h) _ _ _ h).then fun p s h=> ?_;split
   ·exact h
   ·exact h3 k _ _ _ _ h
theorem vA {C:Cx} {n:Nat} {s s':Ms} {l:Lo} {xs:List St} {p:Option Int×Lo} (h:ln (fun s l y=>st C n s l y) s l xs= .ok (p,s')):s'.stk=s.stk:=by
 have:=lS (k:=s.stk) (fun s l x h=>(yZ C n).2.1 _ s l x h) xs l s rfl;rw[h]at this;exact this
end
section
open Go.RowKit
structure RU (X:MX) (C:Cx) (σ:Ms) (w:World) (cs:Array Value) (pv bv av:Value) (ps:List (List UInt8)) (bd:List St) (vs:List Int) (W:World):Prop where
 mv:Mv X.S w W
 ma:MA X C σ W
 bk:aS W w.heap.size 59 cs
 rp:lx W X.P pv ps
 rb:cL W X.P bv bd
 ra:zA W (fun b=>X.hi<=b/\b<w.heap.size) av vs
 hw:X.hi<=w.heap.size
section
variable {X:MX} {C:Cx} {σ σ':Ms} {w W W':World} {cs:Array Value} {pv bv av:Value} {ps:List (List UInt8)} {bd:List St} {vs:List Int} {fb lb:Nat} {l:Lo} {ret:Option Int}
theorem RU.go {S:Nat->Prop} (h:RU X C σ w cs pv bv av ps bd vs W) (hM:Mv S W W') (hS: ∀k,k<w.heap.size+1->S k->X.S k) (hA:MA X C σ' W'):RU X C σ' w cs pv bv av ps bd vs W':=by
 have hw:=h.hw;have hg:=h.ma.ok.g;have hp: ∀k,X.P k-> ¬S k:=fun k hk hs=>MX.S_P hk (hS k (by simp only[MX.S,MX.P]at*;omega) hs);refine⟨h.mv.tr hM fun i hi hs=>hS i (by omega) hs,hA,hM.blk h.bk fun e=>MX.S_lt hw (hS _ (by omega) e),h.rp.keep (hM.keepP fun k hk _=>hp k hk) fun b hb _=>hb,h.rb.keep (hM.keepP fun k hk _=>hp k hk) fun b hb _=>hb,h.ra.keep (hM.keepP fun k hk _ hs=>MX.S_lt hk.1 (hS k (by omega) hs)) fun b hb _=>hb,hw⟩
theorem RU.ext (h:RU X C σ w cs pv bv av ps bd vs W) (hE:au W W'):RU X C σ w cs pv bv av ps bd vs W':=h.go (S:=fun _=>False) (.of_ext hE) (fun _ _ h=>h.elim) (h.ma.ext hE)
theorem RU.new (hA:MA X C σ w) (h1:lx w X.P pv ps) (h2:cL w X.P bv bd) (h3:zA w (fun b=>X.hi<=b) av vs) (cs:Array Value):RU X C σ w cs pv bv av ps bd vs (w.alloc (.cells cs 59)):=
 ⟨.of_ext (O w _),hA.ext (O w _),ap w _ _,h1.keep (.of_ext (O w _)) fun b hb _=>hb,h2.keep (.of_ext (O w _)) fun b hb _=>hb,h3.keep (.of_ext (O w _)) fun b hb hlt=>⟨hb,hlt⟩,hA.top⟩
theorem RU.fr (h:RU X C σ w cs pv bv av ps bd vs W) (hF:FR fb lb l ret W) (hf:w.heap.size+1<=fb) (hl:w.heap.size+1<=lb):FI X fb lb l ret W:=⟨hF,by have:=h.hw;omega,by have:=h.hw;omega⟩
theorem MX.T_new {k n:Nat} (hf:n+1<=fb) (hl:n+1<=lb):k<n+1->X.T fb lb k->X.S k:=fun hk h=>by
 rcases h with h|h|h
 ·exact h
 ·omega
 ·omega
theorem RU.lo (h:RU X C σ w cs pv bv av ps bd vs W) (hg:W.grownBy W' (some lb)) (hl:w.heap.size+1<=lb):RU X C σ w cs pv bv av ps bd vs W':=
 have hM:Mv (fun k=>k=lb) W W':= .of_grown hg fun k e=>by injection e with e;exact e.symm
 h.go hM (fun k hk e=>by omega) (h.ma.mv hM fun k hk e=>by have:=h.hw;omega)
end
theorem Cn {w:World} {P:Nat->Prop} {A:Option Addr} {n c:Nat} {vs:List Int} (h:zA w P (.slice A n c) vs) (i:Nat) (hi:i<vs.length): ∃b o,A=some ⟨b,o,none⟩/\P b/\b<w.heap.size/\w.cell? ⟨b,o+i,none⟩=some (.int .i32 vs[i]):=by
 obtain⟨A',c',e,h⟩:=h;injection e with e1 e2 e3;subst e1 e2 e3;rcases h with h|⟨_,_,b,o,rfl,hP,hb,hc⟩
 ·subst h;simp at hi
 ·exact⟨b,o,rfl,hP,hb,hc i hi⟩
theorem An {w:World} {P:Nat->Prop} {A:Option Addr} {n c:Nat} {vs:List (List UInt8)} (h:lx w P (.slice A n c) vs) (i:Nat) (hi:i<vs.length): ∃b o,A=some ⟨b,o,none⟩/\P b/\b<w.heap.size/\w.cell? ⟨b,o+i,none⟩=some (.string (ai vs[i])):=by
 obtain⟨A',c',e,h⟩:=h;injection e with e1 e2 e3;subst e1 e2 e3;rcases h with h|⟨_,_,b,o,rfl,hP,hb,hc⟩
 ·subst h;simp at hi
 ·exact⟨b,o,rfl,hP,hb,hc i hi⟩
theorem Cj {X:MX} {C:Cx} {σ:Ms} {w W:World} {cs:Array Value} {pv bv av:Value} {ps:List (List UInt8)} {bd:List St} {vs:List Int} (h:RU X C σ w cs pv bv av ps bd vs W) {lf:Int} (hb:aS W X.g 127 (dP X lf σ)) (l1:lf.toNat=σ.left) (l2: -9223372036854775808<=lf) (l3:lf<=9223372036854775807) (fl:Nat) (hk:σ.stk+fl<=1024):
  RU X C {σ with stk:=σ.stk+fl} w cs pv bv av ps bd vs (((W.setCell ⟨X.g,5,none⟩ (.int .i64 ((σ.stk:Int)+(fl:Int)))).alloc (.map #[] 0)).alloc (.cells #[.map (some W.heap.size), .bool false, .int .i32 0] 182))/\
  FR (W.heap.size+1) W.heap.size (fun _=>none) none (((W.setCell ⟨X.g,5,none⟩ (.int .i64 ((σ.stk:Int)+(fl:Int)))).alloc (.map #[] 0)).alloc (.cells #[.map (some W.heap.size), .bool false, .int .i32 0] 182))/\w.heap.size+1<=W.heap.size:=by
 have hA2:MA X C {σ with stk:=σ.stk+fl} (W.setCell ⟨X.g,5,none⟩ (.int .i64 ((σ.stk:Int)+(fl:Int)))):=by
  have:=h.ma.stk1 hb l1 l2 l3 (σ.stk+fl) hk;rwa [Int.natCast_add]at this
 have h2:=h.go (S:=X.S) (Mv.ms_g h.ma.ok (cm W X.g 5 (.int .i64 ((σ.stk:Int)+(fl:Int))))) (fun _ _ h=>h) hA2;have hsz:(W.setCell ⟨X.g,5,none⟩ (.int .i64 ((σ.stk:Int)+(fl:Int)))).heap.size=W.heap.size:=by simp[World.setCell]
 have h3:=FR.new (W.setCell ⟨X.g,5,none⟩ (.int .i64 ((σ.stk:Int)+(fl:Int))));rw[hsz]at h3;exact⟨(h2.ext (O _ _)).ext (O _ _),h3,h.bk.lt⟩
def C8 (X:MX) (C:Cx) (n:Nat):Prop:= ∀(s:List UInt8) (σ:Ms) (w:World) (A:Option Addr) (c:Nat) (vs:List Int),MA X C σ w->2*σ.left<=n->zA w (fun b=>X.hi<=b) (.slice A vs.length c) vs->mu vs->(C.fn s).ps.length<=vs.length->
 Calls prog 48 #[X.p,X.fv s, .slice A vs.length c] w (tO X C w (eK (fun s l y=>st C n s l y) (C.fn s) vs σ))
theorem rJ (X:MX) (C:Cx) (n:Nat) (hS:E7 X C n) (hC:Da C):C8 X C n:=by
 intro s σ w A c vs hA hn hV hI hl;obtain⟨pv,bv,hfv,hRp,hRb⟩:=hA.fr s;rw[hfv];have hsafe:=hC.safe s;have hwt:=hC.wt s;have hps:=hC.ps s;have hpn:=hC.pn s;clear hC hfv;generalize C.fn s=f at*;obtain⟨fnm,ps,bd⟩:=f;simp only at hRp hRb hsafe hwt hps hpn hl⊢;obtain⟨Ap,cp,hpv,hRp'⟩:=id hRp;obtain⟨Ab,cb,hbv,_⟩:=hRb.form;subst hpv hbv;have hdl:=jT bd;obtain⟨fl,hfl⟩: ∃q,gu ⟨fnm,ps,bd⟩=q:=⟨_,rfl⟩
 have hflb:fl<=100000000:=by rw[<-hfl];unfold gu;simp only;omega
 have HFR:=G (fun W (h:cL W X.P (.slice Ab bd.length cb) bd)=>show Calls prog 24 #[.agg #[.string (ai fnm), .slice Ap ps.length cp, .slice Ab bd.length cb]] W fun e w'=>e= .returned (.int .i64 (fl:Int))/\au W w' from hfl▸sG fnm ps bd hwt hps X.P W Ap Ab cp cb h);have hcf:eK (fun s l y=>st C n s l y) ⟨fnm,ps,bd⟩ vs σ=if 1024<σ.stk+fl then .error σ.fails else(ln (fun s l y=>st C n s l y) {σ with stk:=σ.stk+fl} (gx (sw (fun _=>none) ps vs) bd) bd).then fun p s=> .ok (p.1.getD 0,{s with stk:=s.stk-fl}):=by rw[<-hfl];rfl
 obtain⟨Rv,hRv⟩: ∃R,eK (fun s l y=>st C n s l y) ⟨fnm,ps,bd⟩ vs σ=R:=⟨_,rfl⟩
 rw[hRv]at hcf⊢;have hstk:=hA.stk;have HSS:=G (hS bd hsafe (by omega));unfold BB at HSS;have HDF:=G (lI _ bd (ah _) (by omega));unfold D7 at HDF;obtain⟨M,hM⟩: ∃m,ps.length=m:=⟨_,rfl⟩
 obtain⟨NV,hNV⟩: ∃m,vs.length=m:=⟨_,rfl⟩
 rw[hM]at HFR hRp hps hl⊢;rw[hNV]at hV hl⊢;have HQ0:=G (RU.new hA hRp hRb hV #[.string (ai fnm), .slice Ap M cp, .slice Ab bd.length cb]);have HPN:=G hpn;have HI:=G hI;have HM:=G hM;have HNV:=G hNV;have hw1:IntKind.i64.wrap ((σ.stk:Int)+(fl:Int))=((σ.stk+fl:Nat):Int):=by simp[IntKind.wrap,IntKind.signed,IntKind.bits];omega
 clear hA hRp hRp' hRb hV hRv hfl hpn hI hM hNV hS hdl hsafe;by_cases hov:1024<σ.stk+fl
 ·rw[if_pos hov]at hcf;have HE:=G hcf;have hov':(1024:Int)<((σ.stk+fl:Nat):Int):=by omega
  clear hcf;simp only[MX.p]at*;go_enter func48,ntmps48;go_wp2_with (go_at_call 24;refine(HFR.out _ HQ0.out.rb).mono ?_;rintro e w1 ⟨rfl,hE⟩;have HQ1:=G (HQ0.out.ext hE);have HH:=G (HQ1.out.ma.halt 2);obtain⟨lf,l1,l2,l3,hmb⟩:=HQ1.out.ma.mcl;have fk:=hmb.cell;clear hE HFR HQ0 hmb l1 l2 l3);exact⟨rfl,dg HQ1.out.mv HE.out rfl HH.out⟩
 rw[if_neg hov]at hcf;have hov': ¬(1024:Int)<((σ.stk+fl:Nat):Int):=by omega
 have HCF:=G hcf;clear hcf;simp only[MX.p]at HFR HSS HDF⊢;go_enter func48,ntmps48;have hmm:= @run_makeMap prog;go_wp2_with (go_at_call 24;refine(HFR.out _ HQ0.out.rb).mono ?_;rintro e w1 ⟨rfl,hE⟩;have HQ1:=G (HQ0.out.ext hE);obtain⟨lf,l1,l2,l3,hmb⟩:=HQ1.out.ma.mcl;have HR3:=G (Cj HQ1.out hmb l1 l2 l3 fl (by omega));have fk:=hmb.cell;have fz:=hmb.frozen;have f0:=HR3.out.1.bk.cell;clear hE HFR HQ0 HQ1 hmb l1 l2 l3);have HQ3:=G HR3.out.1;have HF3:=G HR3.out.2.1;have HLB:=G HR3.out.2.2;clear hmm f0 fk fz HR3;generalize ((w1.setCell ⟨X.g,5,none⟩ (.int .i64 ((σ.stk:Int)+(fl:Int)))).alloc (.map #[] 0)).alloc (.cells #[.map (some w1.heap.size), .bool false, .int .i32 0] 182)=w3 at*;generalize w1.heap.size=lb at*;obtain⟨L0,hL0⟩: ∃L,sw (fun _=>none) ps vs=L:=⟨_,rfl⟩
 have HL0:=G (show sw (fun _=>none) (ps.drop 0) (vs.drop 0)=L0 from hL0);rw[hL0]at HCF;clear hL0
 go_loopw [36] (fun vi wr=> ∃(j:Nat) (lj:Lo),vi= .int .i64 (j:Int)/\j<=M/\Hid (sw lj (ps.drop j) (vs.drop j)=L0)/\Hid (RU X C {σ with stk:=σ.stk+fl} w #[.string (ai fnm), .slice Ap M cp, .slice Ab bd.length cb] (.slice Ap M cp) (.slice Ab bd.length cb) (.slice A NV c) ps bd vs wr)/\Hid (FR (lb+1) lb lj none wr)) (fun vi _=>M-(intOf vi).toNat)
 case atStart=>exact⟨0,_,rfl,aB _,HL0,HQ3,HF3⟩
 case round=>
  obtain⟨j,lj,rfl,hj,HLj,HX,HFj⟩:=hrel;by_cases hlt:j<M
  ·have hlt':(j:Int)<M:=by omega
   have hjp:j<ps.length:=by have:=HM.out;omega
   have hjv:j<vs.length:=by have:=HNV.out;omega
   have hjn:j<NV:=by omega
   have hjn':(j:Int)<NV:=by omega
   have hS:=yy (l:=lj) hjp hjv;obtain⟨b,o,rfl,hPb,hb,e0⟩:=An HX.out.rp j hjp;obtain⟨b2,o2,rfl,hPb2,hb2,a0⟩:=Cn HX.out.ra j hjv;have hq:=HPN.out _ (aq hjp);have hz:=HI.out _ (aq hjv);generalize ps[j]=q at*;generalize vs[j]=z at*;have HS:=G (hS.symm.trans HLj.out);clear hS;go_wp2_with fail;refine az 9 1 [] mixed (by kernel_rfl) trivial ?_;repeat (refine sx ?_ (fun w1 hU=> ?_) ?_;rotate_left;(focus have fk:=(HFj.out.ext hU.un).blk.cell;have a1:=(hU.un.cell b2 _ hb2).trans a0;clear hU;go_simp<;>with_reducible rfl);simp only[aY,aX,aW,aV,aU])
   intro w7 hw7 _;simp only[ac,an];have HF7:=G (HFj.out.ext hw7.un);have HX7:=G (HX.out.ext hw7.un);clear hw7 e0 a0;go_wp2_with (at_mapUpdate;refine cH CG rfl _ _ _ rfl HF7.out.m rfl (by unfold maxLen;omega) rfl _ rfl ?_;intro w8 hm8 hg8;have HF8:=G (HF7.out.upd hz hm8 hg8);have HX8:=G (HX7.out.lo hg8 HLB.out);clear hm8 hg8);go_roundw
   case rel=>exact⟨j+1,_,by go_num,by omega,HS,HX8,HF8⟩
   case measure=>simp[intOf];omega
  ·have hlt': ¬(j:Int)<M:=by omega
   have hLj:lj=L0:=by rw[<-HLj.out,AX (by have:=HM.out;omega)]
   subst hLj;have hne: ∀b,X.P b->b≠lb:=fun b hb e=>by have:=HLB.out;have:=HX.out.hw;have:=HX.out.ma.ok.g;simp only[MX.S,MX.P]at*;omega
   have HNE:=G hne;have HCF:=HCF;have f0:=HX.out.bk.cell;have hle:2*({σ with stk:=σ.stk+fl}:Ms).left<=n:=hn;have HLE:=G hle;clear hne hle;have HT1:True:=trivial;rcases hs:ln (fun s l y=>st C n s l y) {σ with stk:=σ.stk+fl} (gx lj bd) bd with oc|⟨⟨rt,l2⟩,s2⟩
   ·have HE:=G (show Rv= .error oc by rw[HCF.out,hs];rfl);clear HCF;go_wp2_with (first|(go_at_call 85;clear HT1;refine(HDF.out X.g (lb+1) lb lj none X.P _ Ab _ cb HFj.out HX.out.rb HNE.out).mono ?_;unfold E';rintro e w4 ⟨rfl,hg,hf⟩;have HX4:=G (HX.out.lo hg HLB.out);have HF4:=G hf;clear f0;have f0:=HX4.out.bk.cell;clear hg hf HDF)|(go_at_call 86;refine(HSS.out _ _ (lb+1) lb _ Ab cb HX4.out.ma (HX4.out.fr HF4.out (by have:=HLB.out;omega) HLB.out) HLE.out HX4.out.rb).mono ?_;intro e w5 h;rw[hs]at h;obtain⟨hM,rfl,hH⟩:=h.err_;have HMx:=G (HX4.out.mv.tr hM fun k hk h=>MX.T_new (n:=w.heap.size) (by have:=HLB.out;omega) HLB.out (by omega) h);have HH:=G hH;clear hM hH h));exact⟨rfl,dg HMx.out HE.out rfl HH.out⟩
   ·have hk2:=vA hs;have hk3:s2.stk=σ.stk+fl:=hk2;have hst2:(s2.stk:Int)=(σ.stk:Int)+(fl:Int):=by omega
    have HE:=G (show Rv= .ok (rt.getD 0,{s2 with stk:=σ.stk}) by
     rw[HCF.out,hs,fq,hk3];show Except.ok (rt.getD 0,({s2 with stk:=σ.stk+fl-fl}:Ms))=_
     rw[Nat.add_sub_cancel])
    have hw2:IntKind.i64.wrap ((σ.stk:Int)+(fl:Int)-(fl:Int))=(σ.stk:Int):=by simp[IntKind.wrap,IntKind.signed,IntKind.bits];omega
    have hw3:IntKind.i64.wrap (σ.stk:Int)=(σ.stk:Int):=by simp[IntKind.wrap,IntKind.signed,IntKind.bits];omega
    clear HCF hk2;go_wp2_with (first|(go_at_call 85;clear HT1;refine(HDF.out X.g (lb+1) lb lj none X.P _ Ab _ cb HFj.out HX.out.rb HNE.out).mono ?_;unfold E';rintro e w4 ⟨rfl,hg,hf⟩;have HX4:=G (HX.out.lo hg HLB.out);have HF4:=G hf;clear f0;have f0:=HX4.out.bk.cell;clear hg hf HDF)|(go_at_call 86;refine(HSS.out _ _ (lb+1) lb _ Ab cb HX4.out.ma (HX4.out.fr HF4.out (by have:=HLB.out;omega) HLB.out) HLE.out HX4.out.rb).mono ?_;intro e w5 h;rw[hs]at h;obtain⟨hM,rfl,hA5,hF5⟩:=h.ok_;have HX5:=G (HX4.out.go hM (fun k hk h=>MX.T_new (n:=w.heap.size) (by have:=HLB.out;omega) HLB.out hk h) hA5);have HF5:=G hF5;obtain⟨lf5,l51,l52,l53,hmb5⟩:=hA5.mcl;simp only[dP,hst2]at hmb5;have fk5:=hmb5.cell;have fz5:=hmb5.frozen;have HMB5:=G hmb5;have HML5:=G (ay l51 (ay l52 l53));have hfg:lb+1≠X.g:=(by have:=HLB.out;have:=HX5.out.hw;have:=hA5.ok.g;simp only[MX.S]at*;omega);have fv5:=(hF5.blk.far (p:=⟨X.g,5,none⟩) hfg (.int .i64 (σ.stk:Int))).cell;clear hM hA5 hF5 h hmb5 l51 l52 l53));have HA6:=G (HX5.out.ma.stk1 (by have:=HMB5.out;unfold dP;rw[hst2];exact this) HML5.out.1 HML5.out.2.1 HML5.out.2.2 σ.stk hstk);have HM6:=G (HX5.out.mv.trans (Mv.ms_g HX5.out.ma.ok (cm w5 X.g 5 (.int .i64 (σ.stk:Int)))));go_ret;exact eq HM6.out HE.out HA6.out
end
section
def Fm (Q:Ms->Prop) {α:Type} (r:ER α):Prop:=match r with
 | .ok (_,s)=>Q s
 | .error _=>True
theorem Bd {C:Cx}: ∀(n:Nat) (s:Ms) (l:Lo) (x:Ex),Fm (fun s'=>s'.left+1<=s.left) (ev C n s l x)
 |0,s,l,x=>by rw[ev];exact trivial
 |n+1,s,l,x=>by
  rw[ev];split
  ·exact trivial
  rename_i h0;have hQ:=i_ C.R (s.left-1);have h':s.step.left<=s.left-1:=ah _;have fin: ∀{α:Type} {r:ER α},mS (fun s'=>s'.left<=s.left-1) r->Fm (fun s'=>s'.left+1<=s.left) r:=fun{α r} h=>by
   cases r with
   |error e=>exact trivial
   |ok p=>have h:p.2.left<=s.left-1:=h;show p.2.left+1<=s.left;omega
  obtain⟨h1,h2,h3⟩:=rR hQ (C:=C) rfl n;apply fin;split
  ·exact h'
  split
  ·exact h'
  split
  ·refine(h1 _ l _ h').then fun i s h=> ?_;split
   ·exact h
   ·exact .err h rfl
  split
  ·split
   ·exact zr hQ (fun s x h=>h1 s l x h) _ _ _ _ h'
   ·exact(tC (fun s x h=>h1 s l x h) _ _ _ h').then fun vs s h=>zn hQ (fun s l x h=>h2 s l x h) _ _ _ h
  split
  ·refine(h1 _ l _ h').then fun i s h=> ?_;split<;>exact h
  ·refine(h1 _ l _ h').then fun i s h=> ?_;split
   ·exact h
   split
   ·exact h
   refine(h1 _ l _ h).then fun j s h=> ?_;split
   ·exact h
   ·exact zu _ _ _ _ h
theorem DO {C:Cx} {n:Nat} {s s':Ms} {l:Lo} {x:Ex} {v:Int} (h:ev C n s l x= .ok (v,s')):s'.left+1<=s.left:=by
 have:=Bd (C:=C) n s l x;rw[h]at this;exact this
theorem mL {C:Cx} {n:Nat} {s s':Ms} {l:Lo} {x:Ex} {v:Int} (h:ev C n s l x= .ok (v,s')) (h1:ko s) (h2:pZ l):iK v:=by
 have:=(tD C n).1 s l x h1 h2;rw[h]at this;exact this.1
theorem qb {C:Cx} {n:Nat} {s s':Ms} {l:Lo} {ex:List Ex} {v:Int} (h:val C n s l ex= .ok (v,s')) (h1:ko s) (h2:pZ l):iK v:=by
 unfold val at h;split at h
 ·cases h;decide
 ·exact mL h h1 h2
theorem qU {C:Cx} {n:Nat} {s s':Ms} {l:Lo} {ex:List Ex} {v:Int} (h:val C n s l ex= .ok (v,s')):s'.left<=s.left:=by
 unfold val at h;split at h
 ·cases h;exact ah _
 ·exact nJ h
theorem xy {C:Cx} {n:Nat} {s s':Ms} {l:Lo} {xs:List St} {v:Option Int×Lo} (h:ln (fun s l y=>st C n s l y) s l xs= .ok (v,s')):s'.left<=s.left:=by
 have:=nV (Q:=fun s'=>s'.left<=s.left) (fun s1 l x h=>(rR (i_ C.R s.left) rfl n).2.1 s1 l x h) xs l s (ah _);rw[h]at this;exact this
def fS:=@MX.S_lt
end
end Go.Proofs.YtddomeddabfinaaGreatDoor
