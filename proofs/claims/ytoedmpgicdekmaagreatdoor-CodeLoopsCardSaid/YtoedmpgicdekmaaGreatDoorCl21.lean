/- Parts of the proof. -/
import Derived.Test.YtoedmpgicdekmaaGreatDoorCl19
import Derived.Test.YtoedmpgicdekmaaGreatDoorCl20
set_option maxRecDepth 100000
set_option maxHeartbeats 8000000
set_option linter.all false
namespace Go.Proofs.YtoedmpgicdekmaaGreatDoor
open Value renaming int->Zr,slice->Zs,string->Zt,pointer->Zw,tuple->Zx
open Go.Proofs.Tryz
section
open Go.RowKit
def oL (p:Pg):Er:=if li p=true then(match uV p with| .ok _=>([],0)| .error e=>e)else([],1)
structure CW (w:World) (sv sf x y:Value) (W:World):Prop where
 e:au w W
 b0:aM W w.heap.size 31 #[sv,sf]
 b1:aM W (w.heap.size+1) 9 #[x]
 b2:aM W (w.heap.size+1+1) 33 #[y]
theorem Gd (w:World) (sv sf x y:Value):CW w sv sf x y (((w.alloc (.cells #[sv,sf] 31)).alloc (.cells #[x] 9)).alloc (.cells #[y] 33)):=by
 refine⟨((aa w _).alloc' _).alloc' _,((aq w _ _).alloc _).alloc _,?_,?_⟩
 ·have:=(aq (w.alloc (.cells #[sv,sf] 31)) 9 #[x]).alloc (.cells #[y] 33);rwa [World.size_alloc]at this
 ·have:=aq ((w.alloc (.cells #[sv,sf] 31)).alloc (.cells #[x] 9)) 33 #[y];rwa [World.size_alloc,World.size_alloc]at this
section
variable {w W W':World} {sv sf x y:Value}
theorem CW.ex (d:CW w sv sf x y W) (a:au W W'):CW w sv sf x y W':=⟨d.e.trans a,d.b0.ext a,d.b1.ext a,d.b2.ext a⟩
theorem CW.lt (a:CW w sv sf x y W):w.heap.size+1+1<W.heap.size:=a.b2.lt
theorem CW.put (a:CW w sv sf x y W) (p q:Value):CW w sv sf p q ((W.setCell ⟨w.heap.size+1,0,none⟩ p).setCell ⟨w.heap.size+1+1,0,none⟩ q):=by
 refine⟨(a.e.set (by show w.heap.size<=w.heap.size+1;omega) _).set (by show w.heap.size<=w.heap.size+1+1;omega) _,(a.b0.far (p:=⟨w.heap.size+1,0,none⟩) (by show _≠w.heap.size+1;omega) _).far (p:=⟨w.heap.size+1+1,0,none⟩) (by show _≠w.heap.size+1+1;omega) _,?_,?_⟩
 ·have:=(a.b1.set 0 p).far (p:=⟨w.heap.size+1+1,0,none⟩) (by show _≠w.heap.size+1+1;omega) q;simpa using this
 ·have:=(a.b2.far (p:=⟨w.heap.size+1,0,none⟩) (by show _≠w.heap.size+1;omega) p).set 0 q;simpa using this
theorem CW.mv {S:Nat->Prop} (a:CW w sv sf x y W) (d:Mv S W W') (h: ∀k,k<=w.heap.size+1+1-> ¬S k):CW w sv sf x y W':=by
 have z:=a.lt;have u:au w W':=⟨d.os.trans a.e.os,d.tape.trans a.e.tape,d.output.trans a.e.output,ax a.e.size d.size,λk o=>(d.block k Qa (h k Qa)).trans (a.e.obj o)⟩
 exact⟨u,d.blk a.b0 (h _ Qa),d.blk a.b1 (h _ Qa),d.blk a.b2 (h _ Qa)⟩
theorem CW.drew (a:CW w sv sf x y W):CW w sv sf x y W.drew:=⟨a.e.drew,a.b0.drew,a.b1.drew,a.b2.drew⟩
end
theorem tT (o d:Value) (w:World):
  CallsD prog 29 #[o,d] .returning w λe a w'=>e= .returned (Zx #[])/\a= .returning/\w'=w:=by
 refine callsD_of_wpS func29 rfl λz A u=> ?_;apply wpS_seq;apply wpS_region;simp[wpOpsS,go_sem,recoverD,u,ntmps29,Exit.thenS];apply wpS_seq;apply wpS_region;simp[wpOpsS,go_sem,Exit.thenS];refine wpS_cond (t:=false) (by simp[Act.eval]) ?_;simp only[aQ,if_false];refine wpS_of_wp (wp_skip ?_)
 cases z;simp_all[bodyPostS,results,results29]
theorem si (a w:World) (sv sf x y:Value) (nm:Zy) (n:Int) (A:List PanicEntry) (u:CW a sv sf x y w):
  CallsD prog 29 #[Zw (some ⟨a.heap.size+1,0,none⟩),Zw (some ⟨a.heap.size+1+1,0,none⟩)] (.panicking ({v:= .iface 84 (.agg #[Zt (ak nm),Zr .i64 n]),recovered:=false}::A)) w λe I w'=>
   e= .returned (Zx #[])/\I= .panicking ({v:= .iface 84 (.agg #[Zt (ak nm),Zr .i64 n]),recovered:=true}::A)/\CW a sv sf (Zt (ak nm)) (Zr .i64 n) w':=by
 have F:=aa w (.cells #[Zt (ak nm),Zr .i64 n] 84);have R:=G (aq w 84 #[Zt (ak nm),Zr .i64 n]);have d:=G (u.ex F);have ae:=u.lt;clear F u;refine callsD_of_wpS func29 rfl λag ah J=> ?_;apply wpS_seq;apply wpS_region;simp[wpOpsS,go_sem,recoverD,J,ntmps29,Exit.thenS];have H: ∀v o b:Value,#[o,b]++((Array.replicate 18 undef).setIfInBounds 3 v).setIfInBounds 0 v= #[o,b,v,undef,undef,v,undef,undef,undef,undef,undef,undef,undef,undef,undef,undef,undef,undef,undef,undef]:=by
  intro v o b;apply jn;simp[iZ]
 rw[H];clear H;apply wpS_seq;apply wpS_region;simp[wpOpsS,go_sem,Exit.thenS];refine wpS_cond (t:=true) (by simp[Act.eval]) ?_;simp only[if_true];refine wpS_of_wp ?_;have K: ∀(v:Value) (z:TypeId) (w:World),(Instr.typeAssert (.iface 84 v) z 84 true).run prog w= .ok (Zx #[v, .bool true]) w:=λv z w=>by simp[Instr.typeAssert,run_underlying underlying84]
 go_wp2_with fail;clear K;obtain⟨af,c1,c2,X,V⟩:=Zo R.o.cell d.o.b1.cell d.o.b2.cell d.o.b1.frozen d.o.b2.frozen;have ad:w.heap.size≠a.heap.size+1:=Qa
 have ac:w.heap.size≠a.heap.size+1+1:=Qa
 have ab:a.heap.size+1≠a.heap.size+1+1:=Qa
 generalize w.alloc (.cells #[Zt (ak nm),Zr .i64 n] 84)=Z at*;go_region;have M:=d.o.put (Zt (ak nm)) (Zr .i64 n);refine⟨rfl,_,rfl,Zx #[],?_,rfl,rfl,M.drew⟩;simp[results,results29]
theorem Cc (w:World) (sv sf:Value) (A:BT w):CK ⟨w.heap.size+1+1+1,w.heap.size,w.heap.size+1,w.heap.size+1+1,sv,sf⟩ yJ (.map none) gM ((((w.alloc (.map #[] 0)).alloc (.map #[] 0)).alloc (.map #[] 0)).alloc (.cells #[sv,sf, .map (some w.heap.size), .map (some (w.heap.size+1)), .map (some (w.heap.size+1+1)), .map none] 90)):=by
 obtain⟨F,z,d,a⟩:=Zn (aa w (.map #[] 0)) (aa (w.alloc (.map #[] 0)) (.map #[] 0)) (aa ((w.alloc (.map #[] 0)).alloc (.map #[] 0)) (.map #[] 0)) (aa (((w.alloc (.map #[] 0)).alloc (.map #[] 0)).alloc (.map #[] 0)) (.cells #[sv,sf, .map (some w.heap.size), .map (some (w.heap.size+1)), .map (some (w.heap.size+1+1)), .map none] 90));obtain⟨u,o,h,b⟩:=Zn ((((kr w).ext z).ext d).ext a) (((kr (w.alloc (.map #[] 0))).ext d).ext a) ((kr ((w.alloc (.map #[] 0)).alloc (.map #[] 0))).ext a) (aq (((w.alloc (.map #[] 0)).alloc (.map #[] 0)).alloc (.map #[] 0)) 90 #[sv,sf, .map (some w.heap.size), .map (some (w.heap.size+1)), .map (some (w.heap.size+1+1)), .map none]);simp only[World.size_alloc]at u o h b;exact⟨b,u.congr λs=>rfl,o.congr λs=>rfl,h.congr λs=>rfl, .inl ⟨rfl,rfl⟩,(((A.ext F).ext z).ext d).ext a⟩
theorem rU (p:Pg) (aq:oq p<=6000000) (P:Nat->Prop) (w:World) (A B:Option Addr) (n c m z:Nat) (ar:pt w P (Zs A n c) p.vs) (aw:pE w P (Zs B m z) p.fs) (av:ea w w.heap.size) (ac:BT w):
  Calls prog 11 #[.agg #[Zs A n c,Zs B m z]] w λe w'=>e= .returned (Zx #[Zt (ak (oL p).1),Zr .i64 (oL p).2])/\au w w':=by
 have aJ:= @run_makeMap prog;have aK: ∀(fn:Fn) (first ax:Array Value) (w:World),(Instr.makeFunc fn first ax).run prog w= .ok (.func fn first ax) w:=λ_ _ _ _=>rfl;obtain⟨K,ai,am⟩:=Zg (Gd w (Zs A n c) (Zs B m z) (Zt ⟨#[]⟩) (Zr .i64 0)) (ar.keep (Q:=λb=>b<w.heap.size) ⟨ah _,λ_ _ _=>rfl⟩ (λb ad R=>R)) (aw.keep (Q:=λb=>b<w.heap.size) ⟨ah _,λ_ _ _=>rfl⟩ (λb ad R=>R));obtain⟨ag,az,aj,aA⟩:=Zh (λW (V:au w W)=>xi p aq (λb=>b<w.heap.size) W A B n c m z (ai.o.keep (.of_ext V) (λb o _=>o)) (am.o.keep (.of_ext V) (λb o _=>o)) (gZ av V)) ac (show oL p=if li p=true then(match uV p with| .ok _=>([],0)| .error e=>e)else([],1)from rfl) (fun(ay:CB) (aH:ay.Ok) hg W ad R h3 h4=>z_ p aq ay aH hg (λb=>b<w.heap.size) W ad R h3 h4);have aL:1<w.heap.size:=by obtain⟨t,fr,V⟩:=ac;exact(Array.getElem?_eq_some_iff.1 V).1
 clear ar aw av ac;generalize li p=ok at*;generalize uV p=r at*
 cases ok with
 |false=>
  have ab:=G (show oL p=([],1)from aj);go_enter_defers func11,ntmps11;go_wp2_with (go_at_call 28;refine(ag.o _ K.o.e).mono ?_;rintro e a ⟨rfl,F⟩;have d:=G (K.o.ex F);obtain⟨c1,aC,c2,aB⟩:=Zn d.o.b1.cell d.o.b1.frozen d.o.b2.cell d.o.b2.frozen;clear F);have af:=G (d.o.put (Zt ⟨#[]⟩) (Zr .i64 1));have Z:=af.o.b1.cell;have X:=af.o.b2.cell;refine⟨Zx #[Zt ⟨#[]⟩,Zr .i64 1],?_,by rw[ab.o];rfl,af.o.e⟩;simp[results,results11,go_sem,Z,X]
 |true=>
  cases r with
  |ok u=>
   have ab:=G (show oL p=([],0)from aj);go_enter_defers func11,ntmps11;go_wp2_with (first|(go_at_call 28;refine(ag.o _ K.o.e).mono ?_;rintro e a ⟨rfl,F⟩;have d:=G (K.o.ex F);obtain⟨aI,al,an,aF⟩:=Zn d.o.b0.cell (G (Cc a (Zs A n c) (Zs B m z) (az.o.ext d.o.e))) (G ((((aa a (.map #[] 0)).alloc' (.map #[] 0)).alloc' (.map #[] 0)).alloc' (.cells #[Zs A n c,Zs B m z, .map (some a.heap.size), .map (some (a.heap.size+1)), .map (some (a.heap.size+1+1)), .map none] 90))) d.o.lt;have J:=G (d.o.ex an);clear F)|(go_at_call 30;refine(aA.o ⟨a.heap.size+1+1+1,a.heap.size,a.heap.size+1,a.heap.size+1+1,Zs A n c,Zs B m z⟩ ⟨by simp only;omega,by simp only;omega,by simp only;omega,by simp only;omega,by simp only;omega,by simp only;omega⟩ Qi _ (ai.o.keep (.of_ext J.o.e) (λb o _=>o)) (am.o.keep (.of_ext J.o.e) (λb o _=>o)) (λb o H=>by simp only[CB.U,CB.S]at H;omega) al).mono ?_;unfold JM cG;rintro e ap ⟨M,rfl⟩;have I:=G (J.o.mv M (λk aG H=>by simp only[CB.U,CB.S]at H;omega));obtain⟨c1,aC,c2,aB⟩:=Zn I.o.b1.cell I.o.b1.frozen I.o.b2.cell I.o.b2.frozen;clear M));have ae:=G (I.o.put (Zt ⟨#[]⟩) (Zr .i64 0));refine leaves_cons (f:=29) (args:= #[Zw (some ⟨w.heap.size+1,0,none⟩),Zw (some ⟨w.heap.size+1+1,0,none⟩)]) Qe Qm ?_;refine(tT _ _ _).mono ?_;rintro e aE aD ⟨rfl,rfl,rfl⟩;have Z:=ae.o.b1.cell;have X:=ae.o.b2.cell;refine(show Leaves _ _ _ _ [] .returning _ from ?_);refine⟨Zx #[Zt ⟨#[]⟩,Zr .i64 0],?_,by rw[ab.o];rfl,ae.o.e⟩;simp[results,results11,go_sem,Z,X]
  |error q=>
   obtain⟨nm,en⟩:=q;have ab:=G (show oL p=(nm,en)from aj);go_enter_defers func11,ntmps11;go_wp2_with (first|(go_at_call 28;refine(ag.o _ K.o.e).mono ?_;rintro e a ⟨rfl,F⟩;have d:=G (K.o.ex F);obtain⟨aI,al,an,aF⟩:=Zn d.o.b0.cell (G (Cc a (Zs A n c) (Zs B m z) (az.o.ext d.o.e))) (G ((((aa a (.map #[] 0)).alloc' (.map #[] 0)).alloc' (.map #[] 0)).alloc' (.cells #[Zs A n c,Zs B m z, .map (some a.heap.size), .map (some (a.heap.size+1)), .map (some (a.heap.size+1+1)), .map none] 90))) d.o.lt;have J:=G (d.o.ex an);clear F)|(go_at_call 30;refine(aA.o ⟨a.heap.size+1+1+1,a.heap.size,a.heap.size+1,a.heap.size+1+1,Zs A n c,Zs B m z⟩ ⟨by simp only;omega,by simp only;omega,by simp only;omega,by simp only;omega,by simp only;omega,by simp only;omega⟩ Qi _ (ai.o.keep (.of_ext J.o.e) (λb o _=>o)) (am.o.keep (.of_ext J.o.e) (λb o _=>o)) (λb o H=>by simp only[CB.U,CB.S]at H;omega) al).mono ?_;unfold JM cG bh;rintro e ap ⟨M,rfl⟩;have I:=G (J.o.mv M (λk aG H=>by simp only[CB.U,CB.S]at H;omega));clear M));refine leaves_cons (f:=29) (args:= #[Zw (some ⟨w.heap.size+1,0,none⟩),Zw (some ⟨w.heap.size+1+1,0,none⟩)]) Qe Qm ?_;refine(si w ap _ _ _ _ nm en _ I).mono ?_;rintro e aE aD ⟨rfl,rfl,ao⟩;have Z:=ao.b1.cell;have X:=ao.b2.cell;refine(show Leaves _ _ _ _ [] .returning _ from ?_);refine⟨Zx #[Zt (ak nm),Zr .i64 en],?_,by rw[ab.o],ao.e⟩;simp[results,results11,go_sem,Z,X]
def C8:Zy:=[102,117,110,99,32,109,97,105,110,40,41,32,123,32,114,101,116,117,114,110,32,51,48,48,59,32,125]
def gS:Pg:=pC (.mk 1 [] [] [] 300 [])
def C7:List co:=[⟨2,[102,117,110,99],0,0⟩,⟨1,[109,97,105,110],0,5⟩,⟨5,[40],0,9⟩,⟨5,[41],0,10⟩,⟨5,[123],0,12⟩,⟨2,[114,101,116,117,114,110],0,14⟩,⟨3,[],300,21⟩,⟨5,[59],0,24⟩,⟨5,[125],0,26⟩]
theorem Aa:gY C8=(C7,0,0):=Qk
theorem Ac:dN 44 mN C7= .ok (gS,[]):=Qb
theorem FA:li gS=true:=Dh Qd Qd Qd
theorem C6:mL C8=(gS,0,0):=by
 unfold mL;rw[Aa];simp only[if_true];unfold wg;rw[show dN (4*C7.length+8) mN C7= .ok (gS,[])from Ac];simp only[FA,if_true]
theorem E6:oq gS<=6000000:=Qk
def tL (w:World) (P:Nat->Prop) (v:Value) (R:Rs):Prop:=
 ∃A c,v=Zs A R.length c/\(R=[]\/R.length<=c/\c<=maxLen/\ ∃b o,A=some ⟨b,o,none⟩/\P b/\b<w.heap.size/\ ∃(da:Nat->Option Addr) (dc:Nat->Nat),∀i,(h:i<R.length)->w.cell? ⟨b,o+i*2,none⟩=some (Zr .i64 R[i].1)/\w.cell? ⟨b,o+i*2+1,none⟩=some (Zs (da i) R[i].2.length (dc i))/\Sl w (da i) (dc i) R[i].2/\ ∀b2 o2,da i=some ⟨b2,o2,none⟩->R[i].2≠ []->P b2)
theorem Sl.keepP {w w':World} {P:Nat->Prop} {h:Option Addr} {c:Nat} {l:Zy} (d:Sl w h c l) (o:dE P w w') (z: ∀b a,h=some ⟨b,a,none⟩->l≠ []->P b):Sl w' h c l:=by
 refine⟨d.le,d.max,d.nil,?_⟩;by_cases hl:l=[]
 ·exact .inl hl
 rcases d.rd with A|⟨b,a,ha,hb,hc⟩
 ·exact .inl A
 ·exact .inr ⟨b,a,ha,aA hb o.size,λi u=>(o.cell _ (z b a ha hl) hb).trans (hc i u)⟩
theorem tL.keep {w w':World} {P:Nat->Prop} {v:Value} {z:Rs} (o:tL w P v z) (a:dE P w w'):tL w' P v z:=by
 obtain⟨X,c,rfl,o⟩:=o;refine⟨X,c,rfl,o.imp id fun⟨M,K,b,H,ha,h,d,V,R,J⟩=>⟨M,K,b,H,ha,h,aA d a.size,V,R,λi I=> ?_⟩⟩;obtain⟨G,F,A,u⟩:=J i I;exact⟨(a.cell _ h d).trans G,(a.cell _ h d).trans F,A.keepP a u,u⟩
structure MX where
 g:Nat
 bf:Nat
 bi:Nat
 ba:Nat
 lo:Nat
 hi:Nat
 rb:Zy->Nat
 fv:Zy->Value
 rv:Value
 al:Zy->Nat
 mv:Nat
end
section
end
section
open Go.RowKit
end
section
end
section
open Go.RowKit
end
section
end
section
open Go.RowKit
end
end Go.Proofs.YtoedmpgicdekmaaGreatDoor
