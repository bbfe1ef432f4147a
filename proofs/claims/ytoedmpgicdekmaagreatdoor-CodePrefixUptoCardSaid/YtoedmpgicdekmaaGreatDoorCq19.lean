/-
  Parts of the proof: TyCk PaC TyAv TyN TyO TyDf TyX TyRn TyEx TySk TyRu TySv TyCl TyEy TySya TySyb.
-/
import Derived.Test.YtoedmpgicdekmaaGreatDoorCq17
import Derived.Test.YtoedmpgicdekmaaGreatDoorCq18
import Derived.Test.YtoedmpgicdekmaaGreatDoorCq14
import Derived.Test.YtoedmpgicdekmaaGreatDoorCq16
import Derived.Test.YtoedmpgicdekmaaGreatDoorCq00
set_option maxRecDepth 100000
set_option maxHeartbeats 8000000
set_option linter.unusedVariables false
set_option linter.unusedSimpArgs false
set_option linter.unusedSectionVars false
namespace Go.Proofs.YtoedmpgicdekmaaGreatDoor
open Go.Proofs.Tryz
section
open Go.RowKit
def mH (p:Pg):Er:=if mr p=true then(match sV p with| .ok _=>([],0)| .error e=>e)else([],1)
structure CW (w:World) (sv sf x y:Value) (W:World):Prop where
 e:au w W
 b0:aP W w.heap.size 31 #[sv,sf]
 b1:aP W (w.heap.size+1) 9 #[x]
 b2:aP W (w.heap.size+1+1) 33 #[y]
theorem DH (w:World) (sv sf x y:Value):CW w sv sf x y (((w.alloc (.cells #[sv,sf] 31)).alloc (.cells #[x] 9)).alloc (.cells #[y] 33)):=by
 refine⟨((aa w _).alloc' _).alloc' _,((aw w _ _).alloc _).alloc _,?_,?_⟩
 ·have:=(aw (w.alloc (.cells #[sv,sf] 31)) 9 #[x]).alloc (.cells #[y] 33);rwa [World.size_alloc]at this
 ·have:=aw ((w.alloc (.cells #[sv,sf] 31)).alloc (.cells #[x] 9)) 33 #[y];rwa [World.size_alloc,World.size_alloc]at this
section
variable {w W W':World} {sv sf x y:Value}
theorem CW.ex (h:CW w sv sf x y W) (hE:au W W'):CW w sv sf x y W':=⟨h.e.trans hE,h.b0.ext hE,h.b1.ext hE,h.b2.ext hE⟩
theorem CW.lt (h:CW w sv sf x y W):w.heap.size+1+1<W.heap.size:=h.b2.lt
theorem CW.put (h:CW w sv sf x y W) (p q:Value):CW w sv sf p q ((W.setCell ⟨w.heap.size+1,0,none⟩ p).setCell ⟨w.heap.size+1+1,0,none⟩ q):=by
 refine⟨(h.e.set (by show w.heap.size<=w.heap.size+1;omega) _).set (by show w.heap.size<=w.heap.size+1+1;omega) _,(h.b0.far (p:=⟨w.heap.size+1,0,none⟩) (by show _≠w.heap.size+1;omega) _).far (p:=⟨w.heap.size+1+1,0,none⟩) (by show _≠w.heap.size+1+1;omega) _,?_,?_⟩
 ·have:=(h.b1.set 0 p).far (p:=⟨w.heap.size+1+1,0,none⟩) (by show _≠w.heap.size+1+1;omega) q;simpa using this
 ·have:=(h.b2.far (p:=⟨w.heap.size+1,0,none⟩) (by show _≠w.heap.size+1;omega) p).set 0 q;simpa using this
theorem CW.mv {S:Nat->Prop} (h:CW w sv sf x y W) (hM:Mv S W W') (hS: ∀k,k<=w.heap.size+1+1-> ¬S k):CW w sv sf x y W':=by
 have hl:=h.lt;have hE:au w W':=⟨hM.os.trans h.e.os,hM.tape.trans h.e.tape,hM.output.trans h.e.output,ax h.e.size hM.size,fun k hk=>(hM.block k (by omega) (hS k (by omega))).trans (h.e.obj hk)⟩
 exact⟨hE,hM.blk h.b0 (hS _ (by omega)),hM.blk h.b1 (hS _ (by omega)),hM.blk h.b2 (hS _ (by omega))⟩
theorem CW.drew (h:CW w sv sf x y W):CW w sv sf x y W.drew:=⟨h.e.drew,h.b0.drew,h.b1.drew,h.b2.drew⟩
end
theorem rI (p0 p1:Value) (w:World):
  CallsD prog 29 #[p0,p1] .returning w fun e u' w'=>e= .returned (.tuple #[])/\u'= .returning/\w'=w:=by
 refine callsD_of_wpS func29 rfl fun c₀ cs hu=> ?_;apply wpS_seq;apply wpS_region;simp[wpOpsS,go_sem,recoverD,hu,ntmps29,Exit.thenS];apply wpS_seq;apply wpS_region;simp[wpOpsS,go_sem,Exit.thenS];refine wpS_cond (t:=false) (by simp[Act.eval]) ?_;simp only[ch,if_false];refine wpS_of_wp (wp_skip ?_)
 cases c₀;simp_all[bodyPostS,results,results29]
theorem ql (W0 w:World) (sv sf x y:Value) (nm:List UInt8) (n:Int) (older:List PanicEntry) (H:CW W0 sv sf x y w):
  CallsD prog 29 #[.pointer (some ⟨W0.heap.size+1,0,none⟩), .pointer (some ⟨W0.heap.size+1+1,0,none⟩)] (.panicking ({v:= .iface 84 (.agg #[.string (an nm), .int .i64 n]),recovered:=false}::older)) w fun e u' w'=>
   e= .returned (.tuple #[])/\u'= .panicking ({v:= .iface 84 (.agg #[.string (an nm), .int .i64 n]),recovered:=true}::older)/\CW W0 sv sf (.string (an nm)) (.int .i64 n) w':=by
 have hx:=aa w (.cells #[.string (an nm), .int .i64 n] 84);have HBw:=G (aw w 84 #[.string (an nm), .int .i64 n]);have HC:=G (H.ex hx);have hlt:=H.lt;clear hx H;refine callsD_of_wpS func29 rfl fun c₀ cs hu=> ?_;apply wpS_seq;apply wpS_region;simp[wpOpsS,go_sem,recoverD,hu,ntmps29,Exit.thenS];have hT: ∀v a b:Value,#[a,b]++((Array.replicate 18 undef).setIfInBounds 3 v).setIfInBounds 0 v= #[a,b,v,undef,undef,v,undef,undef,undef,undef,undef,undef,undef,undef,undef,undef,undef,undef,undef,undef]:=by
  intro v a b;apply jo;simp[List.replicate_succ]
 rw[hT];clear hT;apply wpS_seq;apply wpS_region;simp[wpOpsS,go_sem,Exit.thenS];refine wpS_cond (t:=true) (by simp[Act.eval]) ?_;simp only[if_true];refine wpS_of_wp ?_;have hta: ∀(v:Value) (xT:TypeId) (w:World),(Instr.typeAssert (.iface 84 v) xT 84 true).run prog w= .ok (.tuple #[v, .bool true]) w:=fun v xT w=>by simp[Instr.typeAssert,run_underlying underlying84]
 go_wp2_with fail;clear hta;have hb:=HBw.out.cell;have c1:=HC.out.b1.cell;have c2:=HC.out.b2.cell;have z1:=HC.out.b1.frozen;have z2:=HC.out.b2.frozen;have m1:w.heap.size≠W0.heap.size+1:=by omega
 have m2:w.heap.size≠W0.heap.size+1+1:=by omega
 have m3:W0.heap.size+1≠W0.heap.size+1+1:=by omega
 generalize w.alloc (.cells #[.string (an nm), .int .i64 n] 84)=w5 at*;go_region;have hfin:=HC.out.put (.string (an nm)) (.int .i64 n);refine⟨rfl,_,rfl, .tuple #[],?_,rfl,rfl,hfin.drew⟩;simp[results,results29]
theorem z_ (w:World) (sv sf:Value) (ht:BT w):CK ⟨w.heap.size+1+1+1,w.heap.size,w.heap.size+1,w.heap.size+1+1,sv,sf⟩ wE (.map none) fV ((((w.alloc (.map #[] 0)).alloc (.map #[] 0)).alloc (.map #[] 0)).alloc (.cells #[sv,sf, .map (some w.heap.size), .map (some (w.heap.size+1)), .map (some (w.heap.size+1+1)), .map none] 90)):=by
 have e1:=aa w (.map #[] 0);have e2:=aa (w.alloc (.map #[] 0)) (.map #[] 0);have e3:=aa ((w.alloc (.map #[] 0)).alloc (.map #[] 0)) (.map #[] 0);have e4:=aa (((w.alloc (.map #[] 0)).alloc (.map #[] 0)).alloc (.map #[] 0)) (.cells #[sv,sf, .map (some w.heap.size), .map (some (w.heap.size+1)), .map (some (w.heap.size+1+1)), .map none] 90);have m1:=(((jj w).ext e2).ext e3).ext e4;have m2:=((jj (w.alloc (.map #[] 0))).ext e3).ext e4;have m3:=(jj ((w.alloc (.map #[] 0)).alloc (.map #[] 0))).ext e4;have b:=aw (((w.alloc (.map #[] 0)).alloc (.map #[] 0)).alloc (.map #[] 0)) 90 #[sv,sf, .map (some w.heap.size), .map (some (w.heap.size+1)), .map (some (w.heap.size+1+1)), .map none];simp only[World.size_alloc]at m1 m2 m3 b;exact⟨b,m1.congr fun s=>rfl,m2.congr fun s=>rfl,m3.congr fun s=>rfl, .inl ⟨rfl,rfl⟩,(((ht.ext e1).ext e2).ext e3).ext e4⟩
theorem p_ (p:Pg) (hw:qA p<=6000000) (P:Nat->Prop) (w:World) (A B:Option Addr) (n c m d:Nat) (hV:nG w P (.slice A n c) p.vs) (hF:oT w P (.slice B m d) p.fs) (hT:dK w w.heap.size) (hB:BT w):
  Calls prog 11 #[.agg #[.slice A n c, .slice B m d]] w fun e w'=>e= .returned (.tuple #[.string (an (mH p).1), .int .i64 (mH p).2])/\au w w':=by
 have hmm:= @run_makeMap prog;have hmf: ∀(fn:Fn) (first cap:Array Value) (w:World),(Instr.makeFunc fn first cap).run prog w= .ok (.func fn first cap) w:=fun _ _ _ _=>rfl;have HW0:=G (DH w (.slice A n c) (.slice B m d) (.string ⟨#[]⟩) (.int .i64 0));have HV:=G (hV.keep (Q:=fun b=>b<w.heap.size) ⟨ah _,fun _ _ _=>rfl⟩ (fun b h1 h2=>h2));have HF:=G (hF.keep (Q:=fun b=>b<w.heap.size) ⟨ah _,fun _ _ _=>rfl⟩ (fun b h1 h2=>h2));have HVD:=G (fun W (h:au w W)=>uJ p hw (fun b=>b<w.heap.size) W A B n c m d (HV.out.keep (.of_ext h) (fun b hb _=>hb)) (HF.out.keep (.of_ext h) (fun b hb _=>hb)) (gH hT h));have HB:=G hB;have HL:=G (show mH p=if mr p=true then(match sV p with| .ok _=>([],0)| .error e=>e)else([],1)from rfl);have HAL:=G (fun(X:CB) (hX:X.Ok) hg W h1 h2 h3 h4=>xW p hw X hX hg (fun b=>b<w.heap.size) W h1 h2 h3 h4);have hg0:1<w.heap.size:=by obtain⟨t,fr,h⟩:=hB;exact(Array.getElem?_eq_some_iff.1 h).1
 clear hV hF hT hB;generalize mr p=ok at*;generalize sV p=r at*
 cases ok with
 |false=>
  have HQ:=G (show mH p=([],1)from HL.out);go_enter_defers func11,ntmps11;go_wp2_with (go_at_call 28;refine(HVD.out _ HW0.out.e).mono ?_;rintro e w1 ⟨rfl,hE⟩;have HW1:=G (HW0.out.ex hE);have c1:=HW1.out.b1.cell;have z1:=HW1.out.b1.frozen;have c2:=HW1.out.b2.cell;have z2:=HW1.out.b2.frozen;clear hE);have HW2:=G (HW1.out.put (.string ⟨#[]⟩) (.int .i64 1));have d1:=HW2.out.b1.cell;have d2:=HW2.out.b2.cell;refine⟨.tuple #[.string ⟨#[]⟩, .int .i64 1],?_,by rw[HQ.out];rfl,HW2.out.e⟩;simp[results,results11,go_sem,d1,d2]
 |true=>
  cases r with
  |ok u=>
   have HQ:=G (show mH p=([],0)from HL.out);go_enter_defers func11,ntmps11;go_wp2_with (first|(go_at_call 28;refine(HVD.out _ HW0.out.e).mono ?_;rintro e w1 ⟨rfl,hE⟩;have HW1:=G (HW0.out.ex hE);have c0:=HW1.out.b0.cell;have HK:=G (z_ w1 (.slice A n c) (.slice B m d) (HB.out.ext HW1.out.e));have HE4:=G ((((aa w1 (.map #[] 0)).alloc' (.map #[] 0)).alloc' (.map #[] 0)).alloc' (.cells #[.slice A n c, .slice B m d, .map (some w1.heap.size), .map (some (w1.heap.size+1)), .map (some (w1.heap.size+1+1)), .map none] 90));have hl1:=HW1.out.lt;have HW4:=G (HW1.out.ex HE4.out);clear hE)|(go_at_call 30;refine(HAL.out ⟨w1.heap.size+1+1+1,w1.heap.size,w1.heap.size+1,w1.heap.size+1+1, .slice A n c, .slice B m d⟩ ⟨by simp only;omega,by simp only;omega,by simp only;omega,by simp only;omega,by simp only;omega,by simp only;omega⟩ (by simp only;omega) _ (HV.out.keep (.of_ext HW4.out.e) (fun b hb _=>hb)) (HF.out.keep (.of_ext HW4.out.e) (fun b hb _=>hb)) (fun b hb hu=>by simp only[CB.U,CB.S]at hu;omega) HK.out).mono ?_;unfold GC cg;rintro e w5 ⟨hM,rfl⟩;have HW5:=G (HW4.out.mv hM (fun k hk hu=>by simp only[CB.U,CB.S]at hu;omega));have c1:=HW5.out.b1.cell;have z1:=HW5.out.b1.frozen;have c2:=HW5.out.b2.cell;have z2:=HW5.out.b2.frozen;clear hM));have HW7:=G (HW5.out.put (.string ⟨#[]⟩) (.int .i64 0));refine leaves_cons (f:=29) (args:= #[.pointer (some ⟨w.heap.size+1,0,none⟩), .pointer (some ⟨w.heap.size+1+1,0,none⟩)]) (by simp) (by simp[go_sem]) ?_;refine(rI _ _ _).mono ?_;rintro e u' w8 ⟨rfl,rfl,rfl⟩;have d1:=HW7.out.b1.cell;have d2:=HW7.out.b2.cell;refine(show Leaves _ _ _ _ [] .returning _ from ?_);refine⟨.tuple #[.string ⟨#[]⟩, .int .i64 0],?_,by rw[HQ.out];rfl,HW7.out.e⟩;simp[results,results11,go_sem,d1,d2]
  |error q=>
   obtain⟨nm,en⟩:=q;have HQ:=G (show mH p=(nm,en)from HL.out);go_enter_defers func11,ntmps11;go_wp2_with (first|(go_at_call 28;refine(HVD.out _ HW0.out.e).mono ?_;rintro e w1 ⟨rfl,hE⟩;have HW1:=G (HW0.out.ex hE);have c0:=HW1.out.b0.cell;have HK:=G (z_ w1 (.slice A n c) (.slice B m d) (HB.out.ext HW1.out.e));have HE4:=G ((((aa w1 (.map #[] 0)).alloc' (.map #[] 0)).alloc' (.map #[] 0)).alloc' (.cells #[.slice A n c, .slice B m d, .map (some w1.heap.size), .map (some (w1.heap.size+1)), .map (some (w1.heap.size+1+1)), .map none] 90));have hl1:=HW1.out.lt;have HW4:=G (HW1.out.ex HE4.out);clear hE)|(go_at_call 30;refine(HAL.out ⟨w1.heap.size+1+1+1,w1.heap.size,w1.heap.size+1,w1.heap.size+1+1, .slice A n c, .slice B m d⟩ ⟨by simp only;omega,by simp only;omega,by simp only;omega,by simp only;omega,by simp only;omega,by simp only;omega⟩ (by simp only;omega) _ (HV.out.keep (.of_ext HW4.out.e) (fun b hb _=>hb)) (HF.out.keep (.of_ext HW4.out.e) (fun b hb _=>hb)) (fun b hb hu=>by simp only[CB.U,CB.S]at hu;omega) HK.out).mono ?_;unfold GC cg aY;rintro e w5 ⟨hM,rfl⟩;have HW5:=G (HW4.out.mv hM (fun k hk hu=>by simp only[CB.U,CB.S]at hu;omega));clear hM));refine leaves_cons (f:=29) (args:= #[.pointer (some ⟨w.heap.size+1,0,none⟩), .pointer (some ⟨w.heap.size+1+1,0,none⟩)]) (by simp) (by simp[go_sem]) ?_;refine(ql w w5 _ _ _ _ nm en _ HW5.out).mono ?_;rintro e u' w8 ⟨rfl,rfl,H8⟩;have d1:=H8.b1.cell;have d2:=H8.b2.cell;refine(show Leaves _ _ _ _ [] .returning _ from ?_);refine⟨.tuple #[.string (an nm), .int .i64 en],?_,by rw[HQ.out],H8.e⟩;simp[results,results11,go_sem,d1,d2]
end
section
open Go.RowKit
end
section
open Go.RowKit
def Eo:List UInt8:=[102,117,110,99,32,109,97,105,110,40,41,32,123,32,114,101,116,117,114,110,32,51,48,48,59,32,125]
def gq:Pg:=nj (.mk 1 [] [] [] 300 [])
def En:List dW:=[⟨2,[102,117,110,99],0,0⟩,⟨1,[109,97,105,110],0,5⟩,⟨5,[40],0,9⟩,⟨5,[41],0,10⟩,⟨5,[123],0,12⟩,⟨2,[114,101,116,117,114,110],0,14⟩,⟨3,[],300,21⟩,⟨5,[59],0,24⟩,⟨5,[125],0,26⟩]
theorem xZ:kU Eo=(En,0,0):=by decide+kernel
theorem C':mr gq=true:=AY (by decide) (by decide) (by decide)
theorem xY:qA gq<=6000000:=by decide+kernel
end
section
open Go.RowKit
def iT (w:World) (P:Nat->Prop) (v:Value) (R:Rs):Prop:=
 ∃A c,v= .slice A R.length c/\(R=[]\/R.length<=c/\c<=maxLen/\ ∃b o,A=some ⟨b,o,none⟩/\P b/\b<w.heap.size/\ ∃(da:Nat->Option Addr) (dc:Nat->Nat),∀i,(h:i<R.length)->w.cell? ⟨b,o+i*2,none⟩=some (.int .i64 R[i].1)/\w.cell? ⟨b,o+i*2+1,none⟩=some (.slice (da i) R[i].2.length (dc i))/\Sl w (da i) (dc i) R[i].2/\ ∀b2 o2,da i=some ⟨b2,o2,none⟩->R[i].2≠ []->P b2)
theorem Sl.keepP {w w':World} {P:Nat->Prop} {A:Option Addr} {c:Nat} {l:List UInt8} (h:Sl w A c l) (hk:dm P w w') (hP: ∀b o,A=some ⟨b,o,none⟩->l≠ []->P b):Sl w' A c l:=by
 refine⟨h.le,h.max,h.nil,?_⟩;by_cases hl:l=[]
 ·exact .inl hl
 rcases h.rd with h0|⟨b,o,ha,hb,hc⟩
 ·exact .inl h0
 ·exact .inr ⟨b,o,ha,aA hb hk.size,fun i hi=>(hk.cell _ (hP b o ha hl) hb).trans (hc i hi)⟩
theorem iT.keep {w w':World} {P:Nat->Prop} {v:Value} {R:Rs} (h:iT w P v R) (hk:dm P w w'):iT w' P v R:=by
 obtain⟨A,c,rfl,h⟩:=h;refine⟨A,c,rfl,h.imp id fun⟨h1,h2,b,o,ha,hP,hb,da,dc,hc⟩=>⟨h1,h2,b,o,ha,hP,aA hb hk.size,da,dc,fun i hi=> ?_⟩⟩;obtain⟨q0,q1,q2,q3⟩:=hc i hi;exact⟨(hk.cell _ hP hb).trans q0,(hk.cell _ hP hb).trans q1,q2.keepP hk q3,q3⟩
structure MX where
 g:Nat
 bf:Nat
 bi:Nat
 ba:Nat
 lo:Nat
 hi:Nat
 rb:List UInt8->Nat
 fv:List UInt8->Value
 rv:Value
 al:List UInt8->Nat
 mv:Nat
end
section
open Go.RowKit
end
section
open Go.RowKit
end
section
end
section
open Go.RowKit
end
section
open Go.RowKit
end
section
end
section
open Go.RowKit
end
section
end
section
open Go.RowKit
end
section
open Go.RowKit
end
section
open Go.RowKit
end
section
open Go.RowKit
end
end Go.Proofs.YtoedmpgicdekmaaGreatDoor
