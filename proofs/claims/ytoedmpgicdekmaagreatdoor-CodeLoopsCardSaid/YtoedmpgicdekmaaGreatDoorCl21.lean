/- Parts of the proof. -/
import Derived.Test.YtoedmpgicdekmaaGreatDoorCl19
import Derived.Test.YtoedmpgicdekmaaGreatDoorCl20
import Derived.Test.YtoedmpgicdekmaaGreatDoorCl15
import Derived.Test.YtoedmpgicdekmaaGreatDoorCl17
import Derived.Test.YtoedmpgicdekmaaGreatDoorCl00
set_option maxRecDepth 100000
set_option maxHeartbeats 8000000
set_option linter.unusedVariables false
set_option linter.unusedSimpArgs false
set_option linter.unusedSectionVars false
namespace Go.Proofs.YtoedmpgicdekmaaGreatDoor
open Go.Proofs.Tryz
section
open Go.RowKit
def oL (p:Pg):Er:=if li p=true then(match uV p with| .ok _=>([],0)| .error e=>e)else([],1)
structure CW (w:World) (sv sf x y:Value) (W:World):Prop where
 e:au w W
 b0:aM W w.heap.size 31 #[sv,sf]
 b1:aM W (w.heap.size+1) 9 #[x]
 b2:aM W (w.heap.size+1+1) 33 #[y]
theorem Gd (w:World) (sv sf x y:Value):CW w sv sf x y (((w.alloc (.cells #[sv,sf] 31)).alloc (.cells #[x] 9)).alloc (.cells #[y] 33)):=by
 refine⟨((aa w _).alloc' _).alloc' _,((aq w _ _).alloc _).alloc _,?_,?_⟩
 ·have:=(aq (w.alloc (.cells #[sv,sf] 31)) 9 #[x]).alloc (.cells #[y] 33);rwa [World.size_alloc]at this
 ·have:=aq ((w.alloc (.cells #[sv,sf] 31)).alloc (.cells #[x] 9)) 33 #[y];rwa [World.size_alloc,World.size_alloc]at this
section
variable {w W W':World} {sv sf x y:Value}
theorem CW.ex (d:CW w sv sf x y W) (a:au W W'):CW w sv sf x y W':=⟨d.e.trans a,d.b0.ext a,d.b1.ext a,d.b2.ext a⟩
theorem CW.lt (a:CW w sv sf x y W):w.heap.size+1+1<W.heap.size:=a.b2.lt
theorem CW.put (a:CW w sv sf x y W) (p q:Value):CW w sv sf p q ((W.setCell ⟨w.heap.size+1,0,none⟩ p).setCell ⟨w.heap.size+1+1,0,none⟩ q):=by
 refine⟨(a.e.set (by show w.heap.size<=w.heap.size+1;omega) _).set (by show w.heap.size<=w.heap.size+1+1;omega) _,(a.b0.far (p:=⟨w.heap.size+1,0,none⟩) (by show _≠w.heap.size+1;omega) _).far (p:=⟨w.heap.size+1+1,0,none⟩) (by show _≠w.heap.size+1+1;omega) _,?_,?_⟩
 ·have:=(a.b1.set 0 p).far (p:=⟨w.heap.size+1+1,0,none⟩) (by show _≠w.heap.size+1+1;omega) q;simpa using this
 ·have:=(a.b2.far (p:=⟨w.heap.size+1,0,none⟩) (by show _≠w.heap.size+1;omega) p).set 0 q;simpa using this
theorem CW.mv {S:Nat->Prop} (a:CW w sv sf x y W) (d:Mv S W W') (h: ∀k,k<=w.heap.size+1+1-> ¬S k):CW w sv sf x y W':=by
 have z:=a.lt;have u:au w W':=⟨d.os.trans a.e.os,d.tape.trans a.e.tape,d.output.trans a.e.output,ax a.e.size d.size,λk o=>(d.block k Qa (h k Qa)).trans (a.e.obj o)⟩
 exact⟨u,d.blk a.b0 (h _ Qa),d.blk a.b1 (h _ Qa),d.blk a.b2 (h _ Qa)⟩
theorem CW.drew (a:CW w sv sf x y W):CW w sv sf x y W.drew:=⟨a.e.drew,a.b0.drew,a.b1.drew,a.b2.drew⟩
end
theorem tT (o d:Value) (w:World):
  CallsD prog 29 #[o,d] .returning w λe a w'=>e= .returned (.tuple #[])/\a= .returning/\w'=w:=by
 refine callsD_of_wpS func29 rfl λz A u=> ?_;apply wpS_seq;apply wpS_region;simp[wpOpsS,go_sem,recoverD,u,ntmps29,Exit.thenS];apply wpS_seq;apply wpS_region;simp[wpOpsS,go_sem,Exit.thenS];refine wpS_cond (t:=false) (by simp[Act.eval]) ?_;simp only[aQ,if_false];refine wpS_of_wp (wp_skip ?_)
 cases z;simp_all[bodyPostS,results,results29]
theorem si (a w:World) (sv sf x y:Value) (nm:List UInt8) (n:Int) (A:List PanicEntry) (u:CW a sv sf x y w):
  CallsD prog 29 #[.pointer (some ⟨a.heap.size+1,0,none⟩), .pointer (some ⟨a.heap.size+1+1,0,none⟩)] (.panicking ({v:= .iface 84 (.agg #[.string (ak nm), .int .i64 n]),recovered:=false}::A)) w λe I w'=>
   e= .returned (.tuple #[])/\I= .panicking ({v:= .iface 84 (.agg #[.string (ak nm), .int .i64 n]),recovered:=true}::A)/\CW a sv sf (.string (ak nm)) (.int .i64 n) w':=by
 have F:=aa w (.cells #[.string (ak nm), .int .i64 n] 84);have R:=G (aq w 84 #[.string (ak nm), .int .i64 n]);have d:=G (u.ex F);have ae:=u.lt;clear F u;refine callsD_of_wpS func29 rfl λag ah J=> ?_;apply wpS_seq;apply wpS_region;simp[wpOpsS,go_sem,recoverD,J,ntmps29,Exit.thenS];have H: ∀v o b:Value,#[o,b]++((Array.replicate 18 undef).setIfInBounds 3 v).setIfInBounds 0 v= #[o,b,v,undef,undef,v,undef,undef,undef,undef,undef,undef,undef,undef,undef,undef,undef,undef,undef,undef]:=by
  intro v o b;apply jn;simp[iZ]
 rw[H];clear H;apply wpS_seq;apply wpS_region;simp[wpOpsS,go_sem,Exit.thenS];refine wpS_cond (t:=true) (by simp[Act.eval]) ?_;simp only[if_true];refine wpS_of_wp ?_;have K: ∀(v:Value) (z:TypeId) (w:World),(Instr.typeAssert (.iface 84 v) z 84 true).run prog w= .ok (.tuple #[v, .bool true]) w:=λv z w=>by simp[Instr.typeAssert,run_underlying underlying84]
 go_wp2_with fail;clear K;have af:=R.out.cell;have c1:=d.out.b1.cell;have c2:=d.out.b2.cell;have X:=d.out.b1.frozen;have V:=d.out.b2.frozen;have ad:w.heap.size≠a.heap.size+1:=Qa
 have ac:w.heap.size≠a.heap.size+1+1:=Qa
 have ab:a.heap.size+1≠a.heap.size+1+1:=Qa
 generalize w.alloc (.cells #[.string (ak nm), .int .i64 n] 84)=Z at*;go_region;have M:=d.out.put (.string (ak nm)) (.int .i64 n);refine⟨rfl,_,rfl, .tuple #[],?_,rfl,rfl,M.drew⟩;simp[results,results29]
theorem Cc (w:World) (sv sf:Value) (A:BT w):CK ⟨w.heap.size+1+1+1,w.heap.size,w.heap.size+1,w.heap.size+1+1,sv,sf⟩ yJ (.map none) gM ((((w.alloc (.map #[] 0)).alloc (.map #[] 0)).alloc (.map #[] 0)).alloc (.cells #[sv,sf, .map (some w.heap.size), .map (some (w.heap.size+1)), .map (some (w.heap.size+1+1)), .map none] 90)):=by
 have F:=aa w (.map #[] 0);have z:=aa (w.alloc (.map #[] 0)) (.map #[] 0);have d:=aa ((w.alloc (.map #[] 0)).alloc (.map #[] 0)) (.map #[] 0);have a:=aa (((w.alloc (.map #[] 0)).alloc (.map #[] 0)).alloc (.map #[] 0)) (.cells #[sv,sf, .map (some w.heap.size), .map (some (w.heap.size+1)), .map (some (w.heap.size+1+1)), .map none] 90);have u:=(((kr w).ext z).ext d).ext a;have o:=((kr (w.alloc (.map #[] 0))).ext d).ext a;have h:=(kr ((w.alloc (.map #[] 0)).alloc (.map #[] 0))).ext a;have b:=aq (((w.alloc (.map #[] 0)).alloc (.map #[] 0)).alloc (.map #[] 0)) 90 #[sv,sf, .map (some w.heap.size), .map (some (w.heap.size+1)), .map (some (w.heap.size+1+1)), .map none];simp only[World.size_alloc]at u o h b;exact⟨b,u.congr λs=>rfl,o.congr λs=>rfl,h.congr λs=>rfl, .inl ⟨rfl,rfl⟩,(((A.ext F).ext z).ext d).ext a⟩
theorem rU (p:Pg) (aq:oq p<=6000000) (P:Nat->Prop) (w:World) (A B:Option Addr) (n c m z:Nat) (ar:pt w P (.slice A n c) p.vs) (aw:pE w P (.slice B m z) p.fs) (av:ea w w.heap.size) (ac:BT w):
  Calls prog 11 #[.agg #[.slice A n c, .slice B m z]] w λe w'=>e= .returned (.tuple #[.string (ak (oL p).1), .int .i64 (oL p).2])/\au w w':=by
 have aJ:= @run_makeMap prog;have aK: ∀(fn:Fn) (first ax:Array Value) (w:World),(Instr.makeFunc fn first ax).run prog w= .ok (.func fn first ax) w:=λ_ _ _ _=>rfl;have K:=G (Gd w (.slice A n c) (.slice B m z) (.string ⟨#[]⟩) (.int .i64 0));have ai:=G (ar.keep (Q:=λb=>b<w.heap.size) ⟨ah _,λ_ _ _=>rfl⟩ (λb ad R=>R));have am:=G (aw.keep (Q:=λb=>b<w.heap.size) ⟨ah _,λ_ _ _=>rfl⟩ (λb ad R=>R));have ag:=G (λW (V:au w W)=>xi p aq (λb=>b<w.heap.size) W A B n c m z (ai.out.keep (.of_ext V) (λb o _=>o)) (am.out.keep (.of_ext V) (λb o _=>o)) (gZ av V));have az:=G ac;have aj:=G (show oL p=if li p=true then(match uV p with| .ok _=>([],0)| .error e=>e)else([],1)from rfl);have aA:=G (fun(ay:CB) (aH:ay.Ok) hg W ad R h3 h4=>z_ p aq ay aH hg (λb=>b<w.heap.size) W ad R h3 h4);have aL:1<w.heap.size:=by obtain⟨t,fr,V⟩:=ac;exact(Array.getElem?_eq_some_iff.1 V).1
 clear ar aw av ac;generalize li p=ok at*;generalize uV p=r at*
 cases ok with
 |false=>
  have ab:=G (show oL p=([],1)from aj.out);go_enter_defers func11,ntmps11;go_wp2_with (go_at_call 28;refine(ag.out _ K.out.e).mono ?_;rintro e a ⟨rfl,F⟩;have d:=G (K.out.ex F);have c1:=d.out.b1.cell;have aC:=d.out.b1.frozen;have c2:=d.out.b2.cell;have aB:=d.out.b2.frozen;clear F);have af:=G (d.out.put (.string ⟨#[]⟩) (.int .i64 1));have Z:=af.out.b1.cell;have X:=af.out.b2.cell;refine⟨.tuple #[.string ⟨#[]⟩, .int .i64 1],?_,by rw[ab.out];rfl,af.out.e⟩;simp[results,results11,go_sem,Z,X]
 |true=>
  cases r with
  |ok u=>
   have ab:=G (show oL p=([],0)from aj.out);go_enter_defers func11,ntmps11;go_wp2_with (first|(go_at_call 28;refine(ag.out _ K.out.e).mono ?_;rintro e a ⟨rfl,F⟩;have d:=G (K.out.ex F);have aI:=d.out.b0.cell;have al:=G (Cc a (.slice A n c) (.slice B m z) (az.out.ext d.out.e));have an:=G ((((aa a (.map #[] 0)).alloc' (.map #[] 0)).alloc' (.map #[] 0)).alloc' (.cells #[.slice A n c, .slice B m z, .map (some a.heap.size), .map (some (a.heap.size+1)), .map (some (a.heap.size+1+1)), .map none] 90));have aF:=d.out.lt;have J:=G (d.out.ex an.out);clear F)|(go_at_call 30;refine(aA.out ⟨a.heap.size+1+1+1,a.heap.size,a.heap.size+1,a.heap.size+1+1, .slice A n c, .slice B m z⟩ ⟨by simp only;omega,by simp only;omega,by simp only;omega,by simp only;omega,by simp only;omega,by simp only;omega⟩ Qi _ (ai.out.keep (.of_ext J.out.e) (λb o _=>o)) (am.out.keep (.of_ext J.out.e) (λb o _=>o)) (λb o H=>by simp only[CB.U,CB.S]at H;omega) al.out).mono ?_;unfold JM cG;rintro e ap ⟨M,rfl⟩;have I:=G (J.out.mv M (λk aG H=>by simp only[CB.U,CB.S]at H;omega));have c1:=I.out.b1.cell;have aC:=I.out.b1.frozen;have c2:=I.out.b2.cell;have aB:=I.out.b2.frozen;clear M));have ae:=G (I.out.put (.string ⟨#[]⟩) (.int .i64 0));refine leaves_cons (f:=29) (args:= #[.pointer (some ⟨w.heap.size+1,0,none⟩), .pointer (some ⟨w.heap.size+1+1,0,none⟩)]) Qe Qm ?_;refine(tT _ _ _).mono ?_;rintro e aE aD ⟨rfl,rfl,rfl⟩;have Z:=ae.out.b1.cell;have X:=ae.out.b2.cell;refine(show Leaves _ _ _ _ [] .returning _ from ?_);refine⟨.tuple #[.string ⟨#[]⟩, .int .i64 0],?_,by rw[ab.out];rfl,ae.out.e⟩;simp[results,results11,go_sem,Z,X]
  |error q=>
   obtain⟨nm,en⟩:=q;have ab:=G (show oL p=(nm,en)from aj.out);go_enter_defers func11,ntmps11;go_wp2_with (first|(go_at_call 28;refine(ag.out _ K.out.e).mono ?_;rintro e a ⟨rfl,F⟩;have d:=G (K.out.ex F);have aI:=d.out.b0.cell;have al:=G (Cc a (.slice A n c) (.slice B m z) (az.out.ext d.out.e));have an:=G ((((aa a (.map #[] 0)).alloc' (.map #[] 0)).alloc' (.map #[] 0)).alloc' (.cells #[.slice A n c, .slice B m z, .map (some a.heap.size), .map (some (a.heap.size+1)), .map (some (a.heap.size+1+1)), .map none] 90));have aF:=d.out.lt;have J:=G (d.out.ex an.out);clear F)|(go_at_call 30;refine(aA.out ⟨a.heap.size+1+1+1,a.heap.size,a.heap.size+1,a.heap.size+1+1, .slice A n c, .slice B m z⟩ ⟨by simp only;omega,by simp only;omega,by simp only;omega,by simp only;omega,by simp only;omega,by simp only;omega⟩ Qi _ (ai.out.keep (.of_ext J.out.e) (λb o _=>o)) (am.out.keep (.of_ext J.out.e) (λb o _=>o)) (λb o H=>by simp only[CB.U,CB.S]at H;omega) al.out).mono ?_;unfold JM cG bh;rintro e ap ⟨M,rfl⟩;have I:=G (J.out.mv M (λk aG H=>by simp only[CB.U,CB.S]at H;omega));clear M));refine leaves_cons (f:=29) (args:= #[.pointer (some ⟨w.heap.size+1,0,none⟩), .pointer (some ⟨w.heap.size+1+1,0,none⟩)]) Qe Qm ?_;refine(si w ap _ _ _ _ nm en _ I.out).mono ?_;rintro e aE aD ⟨rfl,rfl,ao⟩;have Z:=ao.b1.cell;have X:=ao.b2.cell;refine(show Leaves _ _ _ _ [] .returning _ from ?_);refine⟨.tuple #[.string (ak nm), .int .i64 en],?_,by rw[ab.out],ao.e⟩;simp[results,results11,go_sem,Z,X]
def C8:List UInt8:=[102,117,110,99,32,109,97,105,110,40,41,32,123,32,114,101,116,117,114,110,32,51,48,48,59,32,125]
def gS:Pg:=pC (.mk 1 [] [] [] 300 [])
def C7:List co:=[⟨2,[102,117,110,99],0,0⟩,⟨1,[109,97,105,110],0,5⟩,⟨5,[40],0,9⟩,⟨5,[41],0,10⟩,⟨5,[123],0,12⟩,⟨2,[114,101,116,117,114,110],0,14⟩,⟨3,[],300,21⟩,⟨5,[59],0,24⟩,⟨5,[125],0,26⟩]
theorem Aa:gY C8=(C7,0,0):=Qk
theorem Ac:dN 44 mN C7= .ok (gS,[]):=Qb
theorem FA:li gS=true:=Dh Qd Qd Qd
theorem C6:mL C8=(gS,0,0):=by
 unfold mL;rw[Aa];simp only[if_true];unfold wg;rw[show dN (4*C7.length+8) mN C7= .ok (gS,[])from Ac];simp only[FA,if_true]
theorem E6:oq gS<=6000000:=Qk
def tL (w:World) (P:Nat->Prop) (v:Value) (R:Rs):Prop:=
 ∃A c,v= .slice A R.length c/\(R=[]\/R.length<=c/\c<=maxLen/\ ∃b o,A=some ⟨b,o,none⟩/\P b/\b<w.heap.size/\ ∃(da:Nat->Option Addr) (dc:Nat->Nat),∀i,(h:i<R.length)->w.cell? ⟨b,o+i*2,none⟩=some (.int .i64 R[i].1)/\w.cell? ⟨b,o+i*2+1,none⟩=some (.slice (da i) R[i].2.length (dc i))/\Sl w (da i) (dc i) R[i].2/\ ∀b2 o2,da i=some ⟨b2,o2,none⟩->R[i].2≠ []->P b2)
theorem Sl.keepP {w w':World} {P:Nat->Prop} {h:Option Addr} {c:Nat} {l:List UInt8} (d:Sl w h c l) (o:dE P w w') (z: ∀b a,h=some ⟨b,a,none⟩->l≠ []->P b):Sl w' h c l:=by
 refine⟨d.le,d.max,d.nil,?_⟩;by_cases hl:l=[]
 ·exact .inl hl
 rcases d.rd with A|⟨b,a,ha,hb,hc⟩
 ·exact .inl A
 ·exact .inr ⟨b,a,ha,aA hb o.size,λi u=>(o.cell _ (z b a ha hl) hb).trans (hc i u)⟩
theorem tL.keep {w w':World} {P:Nat->Prop} {v:Value} {z:Rs} (o:tL w P v z) (a:dE P w w'):tL w' P v z:=by
 obtain⟨X,c,rfl,o⟩:=o;refine⟨X,c,rfl,o.imp id fun⟨M,K,b,H,ha,h,d,V,R,J⟩=>⟨M,K,b,H,ha,h,aA d a.size,V,R,λi I=> ?_⟩⟩;obtain⟨G,F,A,u⟩:=J i I;exact⟨(a.cell _ h d).trans G,(a.cell _ h d).trans F,A.keepP a u,u⟩
structure MX where
 g:Nat
 bf:Nat
 bi:Nat
 ba:Nat
 lo:Nat
 hi:Nat
 rb:List UInt8->Nat
 fv:List UInt8->Value
 rv:Value
 al:List UInt8->Nat
 mv:Nat
end
section
end
section
open Go.RowKit
end
section
end
section
open Go.RowKit
end
section
end
section
open Go.RowKit
end
end Go.Proofs.YtoedmpgicdekmaaGreatDoor
