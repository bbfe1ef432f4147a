/- Parts of the proof. -/
import Derived.Test.YtddomeddabfinaaGreatDoorTt23
import Derived.Test.YtddomeddabfinaaGreatDoorTt25
import Derived.Test.YtddomeddabfinaaGreatDoorTt18
import Derived.Test.YtddomeddabfinaaGreatDoorTt17
import Derived.Test.YtddomeddabfinaaGreatDoorTt21
import Derived.Test.YtddomeddabfinaaGreatDoorTt16
import Derived.Test.YtddomeddabfinaaGreatDoorTt00
set_option maxRecDepth 100000
set_option maxHeartbeats 8000000
set_option linter.unusedVariables false
set_option linter.unusedSimpArgs false
set_option linter.defProp false
set_option linter.unusedSectionVars false
namespace Go.Proofs.YtddomeddabfinaaGreatDoor
open IntKind(i64)
open Go.Proofs.Tryz
section
open Go.RowKit
def gF (p:Pg):Er:=if gx p=true then(match ig p with| .ok _=>([],0)| .error e=>e)else([],1)
structure CW (w:World) (sv sf x y:Value) (W:World):Prop where
 e:az w W
 b0:aU W w.heap.size 34 #[sv,sf]
 b1:aU W (w.heap.size+1) 9 #[x]
 b2:aU W (w.heap.size+1+1) 28 #[y]
theorem Ft (a:World) (h j x y:Value):CW a h j x y (((a.alloc (.cells #[h,j] 34)).alloc (.cells #[x] 9)).alloc (.cells #[y] 28)):=by
 refine⟨((Z a _).alloc' _).alloc' _,((aw a _ _).alloc _).alloc _,?_,?_⟩
 ·have:=(aw (a.alloc (.cells #[h,j] 34)) 9 #[x]).alloc (.cells #[y] 28);rwa [World.size_alloc]at this
 ·have:=aw ((a.alloc (.cells #[h,j] 34)).alloc (.cells #[x] 9)) 28 #[y];rwa [World.size_alloc,World.size_alloc]at this
section
variable {w W W':World} {sv sf x y:Value}
theorem CW.ex (h:CW w sv sf x y W) (a:az W W'):CW w sv sf x y W':=⟨h.e.trans a,h.b0.ext a,h.b1.ext a,h.b2.ext a⟩
theorem CW.lt (a:CW w sv sf x y W):w.heap.size+1+1<W.heap.size:=a.b2.lt
theorem CW.put (a:CW w sv sf x y W) (p q:Value):CW w sv sf p q ((W.setCell ⟨w.heap.size+1,0,none⟩ p).setCell ⟨w.heap.size+1+1,0,none⟩ q):=by
 refine⟨(a.e.set (by show w.heap.size<=w.heap.size+1;omega) _).set (by show w.heap.size<=w.heap.size+1+1;omega) _,(a.b0.far (p:=⟨w.heap.size+1,0,none⟩) (by show _≠w.heap.size+1;omega) _).far (p:=⟨w.heap.size+1+1,0,none⟩) (by show _≠w.heap.size+1+1;omega) _,?_,?_⟩
 ·have:=(a.b1.set 0 p).far (p:=⟨w.heap.size+1+1,0,none⟩) (by show _≠w.heap.size+1+1;omega) q;simpa using this
 ·have:=(a.b2.far (p:=⟨w.heap.size+1,0,none⟩) (by show _≠w.heap.size+1;omega) p).set 0 q;simpa using this
theorem CW.mv {S:Nat->Prop} (a:CW w sv sf x y W) (h:Mv S W W') (j: ∀k,k<=w.heap.size+1+1-> ¬S k):CW w sv sf x y W':=by
 have A:=a.lt;have z:az w W':=⟨h.os.trans a.e.os,h.tape.trans a.e.tape,h.output.trans a.e.output,aR a.e.size h.size,λk o=>(h.block k Qa (j k Qa)).trans (a.e.obj o)⟩
 exact⟨z,h.blk a.b0 (j _ Qa),h.blk a.b1 (j _ Qa),h.blk a.b2 (j _ Qa)⟩
theorem CW.drew (a:CW w sv sf x y W):CW w sv sf x y W.drew:=⟨a.e.drew,a.b0.drew,a.b1.drew,a.b2.drew⟩
end
theorem tb (w o:Value) (a:World):
  CallsD prog 36 #[w,o] .returning a λe j w'=>e=.returned (.tuple #[])/\j=.returning/\w'=a:=by
 refine callsD_of_wpS func36 rfl λA G z=> ?_;apply wpS_seq;apply wpS_region;simp[wpOpsS,go_sem,recoverD,z,ntmps36,Exit.thenS];apply wpS_seq;apply wpS_region;simp[wpOpsS,go_sem,Exit.thenS];refine wpS_cond (t:=false) (by simp[Act.eval]) ?_;simp only[aT,if_false];refine wpS_of_wp (wp_skip ?_)
 cases A;simp_all[bodyPostS,results,results36]
theorem rZ (j a:World) (A G x y:Value) (nm:List UInt8) (n:Int) (K:List PanicEntry) (H:CW j A G x y a):
  CallsD prog 36 #[.pointer (some ⟨j.heap.size+1,0,none⟩),.pointer (some ⟨j.heap.size+1+1,0,none⟩)] (.panicking ({v:=.iface 102 (.agg #[.string (J nm),.int i64 n]),recovered:=false}::K)) a λe V w'=>
   e=.returned (.tuple #[])/\V=.panicking ({v:=.iface 102 (.agg #[.string (J nm),.int i64 n]),recovered:=true}::K)/\CW j A G (.string (J nm)) (.int i64 n) w':=by
 have M:=Z a (.cells #[.string (J nm),.int i64 n] 102);have ac:=O (aw a 102 #[.string (J nm),.int i64 n]);have o:=O (H.ex M);have aj:=H.lt;clear M H;refine callsD_of_wpS func36 rfl λal an X=> ?_;apply wpS_seq;apply wpS_region;simp[wpOpsS,go_sem,recoverD,X,ntmps36,Exit.thenS];have R: ∀v w b:Value,#[w,b]++((Array.replicate 18 undef).setIfInBounds 3 v).setIfInBounds 0 v= #[w,b,v,undef,undef,v,undef,undef,undef,undef,undef,undef,undef,undef,undef,undef,undef,undef,undef,undef]:=by
  intro v w b;apply kI;simp[i_]
 rw[R];clear R;apply wpS_seq;apply wpS_region;simp[wpOpsS,go_sem,Exit.thenS];refine wpS_cond (t:=true) (by simp[Act.eval]) ?_;simp only[if_true];refine wpS_of_wp ?_;have I: ∀(v:Value) (z:TypeId) (a:World),(Instr.typeAssert (.iface 102 v) z 102 true).run prog a=.ok (.tuple #[v,.bool true]) a:=λv z a=>by simp[Instr.typeAssert,run_underlying underlying102]
 go_wp2_with fail;clear I;have ak:=ac.out.cell;have ap:=o.out.b1.cell;have ao:=o.out.b2.cell;have ae:=o.out.b1.frozen;have ad:=o.out.b2.frozen;have ai:a.heap.size≠j.heap.size+1:=Qa
 have ah:a.heap.size≠j.heap.size+1+1:=Qa
 have ag:j.heap.size+1≠j.heap.size+1+1:=Qa
 generalize a.alloc (.cells #[.string (J nm),.int i64 n] 102)=af at*;go_region;have ab:=o.out.put (.string (J nm)) (.int i64 n);refine⟨rfl,_,rfl,.tuple #[],?_,rfl,rfl,ab.drew⟩;simp[results,results36]
theorem BH (a:World) (h j:Value) (M:BT a):CK ⟨a.heap.size+1+1+1,a.heap.size,a.heap.size+1,a.heap.size+1+1,h,j⟩ ob (.map none) gc ((((a.alloc (.map #[] 0)).alloc (.map #[] 0)).alloc (.map #[] 0)).alloc (.cells #[h,j,.map (some a.heap.size),.map (some (a.heap.size+1)),.map (some (a.heap.size+1+1)),.map none] 108)):=by
 have O:=Z a (.map #[] 0);have K:=Z (a.alloc (.map #[] 0)) (.map #[] 0);have w:=Z ((a.alloc (.map #[] 0)).alloc (.map #[] 0)) (.map #[] 0);have o:=Z (((a.alloc (.map #[] 0)).alloc (.map #[] 0)).alloc (.map #[] 0)) (.cells #[h,j,.map (some a.heap.size),.map (some (a.heap.size+1)),.map (some (a.heap.size+1+1)),.map none] 108);have G:=(((iw a).ext K).ext w).ext o;have A:=((iw (a.alloc (.map #[] 0))).ext w).ext o;have z:=(iw ((a.alloc (.map #[] 0)).alloc (.map #[] 0))).ext o;have b:=aw (((a.alloc (.map #[] 0)).alloc (.map #[] 0)).alloc (.map #[] 0)) 108 #[h,j,.map (some a.heap.size),.map (some (a.heap.size+1)),.map (some (a.heap.size+1+1)),.map none];simp only[World.size_alloc]at G A z b;exact⟨b,G.congr λs=>rfl,A.congr λs=>rfl,z.congr λs=>rfl,.inl ⟨rfl,rfl⟩,(((M.ext O).ext K).ext w).ext o⟩
theorem mB (p:Pg) (au:jo p<=6000000) (P:Nat->Prop) (a:World) (z B:Option Addr) (n c m d:Nat) (av:ik a P (.slice z n c) p.vs) (ax:jl a P (.slice B m d) p.fs) (aw:dP a a.heap.size) (ae:BT a):
  Calls prog 13 #[.agg #[.slice z n c,.slice B m d]] a λe w'=>e=.returned (.tuple #[.string (J (gF p).1),.int i64 (gF p).2])/\az a w':=by
 have aN:= @run_makeMap prog;have aO: ∀(fn:Fn) (first ay:Array Value) (a:World),(Instr.makeFunc fn first ay).run prog a=.ok (.func fn first ay) a:=λ_ _ _ _=>rfl;have R:=O (Ft a (.slice z n c) (.slice B m d) (.string ⟨#[]⟩) (.int i64 0));have aj:=O (av.keep (Q:=λb=>b<a.heap.size) ⟨ak _,λ_ _ _=>rfl⟩ (λb af X=>X));have ao:=O (ax.keep (Q:=λb=>b<a.heap.size) ⟨ak _,λ_ _ _=>rfl⟩ (λb af X=>X));have ai:=O (λW (I:az a W)=>rV p au (λb=>b<a.heap.size) W z B n c m d (aj.out.keep (.of_ext I) (λb w _=>w)) (ao.out.keep (.of_ext I) (λb w _=>w)) (dN aw I));have aB:=O ae;have al:=O (show gF p=if gx p=true then(match ig p with| .ok _=>([],0)| .error e=>e)else([],1)from rfl);have aC:=O (fun(aA:CB) (aJ:aA.Ok) hg W af X h3 h4=>zG p au aA aJ hg (λb=>b<a.heap.size) W af X h3 h4);have aP:0<a.heap.size:=by obtain⟨t,fr,I⟩:=ae;exact(Array.getElem?_eq_some_iff.1 I).1
 clear av ax aw ae;generalize gx p=ok at*;generalize ig p=r at*
 cases ok with
 |false=>
  have ad:=O (show gF p=([],1)from al.out);go_enter_defers func13,ntmps13;go_wp2_with (go_at_call 35;refine(ai.out _ R.out.e).mono ?_;rintro e j ⟨rfl,A⟩;have o:=O (R.out.ex A);have aL:=o.out.b1.cell;have aE:=o.out.b1.frozen;have aK:=o.out.b2.cell;have aD:=o.out.b2.frozen;clear A);have ah:=O (o.out.put (.string ⟨#[]⟩) (.int i64 1));have ac:=ah.out.b1.cell;have ab:=ah.out.b2.cell;refine⟨.tuple #[.string ⟨#[]⟩,.int i64 1],?_,by rw[ad.out];rfl,ah.out.e⟩;simp[results,results13,go_sem,ac,ab]
 |true=>
  cases r with
  |ok u=>
   have ad:=O (show gF p=([],0)from al.out);go_enter_defers func13,ntmps13;go_wp2_with (first|(go_at_call 35;refine(ai.out _ R.out.e).mono ?_;rintro e j ⟨rfl,A⟩;have o:=O (R.out.ex A);have aM:=o.out.b0.cell;have an:=O (BH j (.slice z n c) (.slice B m d) (aB.out.ext o.out.e));have ap:=O ((((Z j (.map #[] 0)).alloc' (.map #[] 0)).alloc' (.map #[] 0)).alloc' (.cells #[.slice z n c,.slice B m d,.map (some j.heap.size),.map (some (j.heap.size+1)),.map (some (j.heap.size+1+1)),.map none] 108));have aH:=o.out.lt;have M:=O (o.out.ex ap.out);clear A)|(go_at_call 37;refine(aC.out ⟨j.heap.size+1+1+1,j.heap.size,j.heap.size+1,j.heap.size+1+1,.slice z n c,.slice B m d⟩ ⟨by simp only;omega,by simp only;omega,by simp only;omega,by simp only;omega,by simp only;omega,by simp only;omega⟩ (by simp only;omega) _ (aj.out.keep (.of_ext M.out.e) (λb w _=>w)) (ao.out.keep (.of_ext M.out.e) (λb w _=>w)) (λb w G=>by simp only[CB.U,CB.S]at G;omega) an.out).mono ?_;unfold Ie cu;rintro e ar ⟨V,rfl⟩;have K:=O (M.out.mv V (λk aI G=>by simp only[CB.U,CB.S]at G;omega));have aL:=K.out.b1.cell;have aE:=K.out.b1.frozen;have aK:=K.out.b2.cell;have aD:=K.out.b2.frozen;clear V));have ag:=O (K.out.put (.string ⟨#[]⟩) (.int i64 0));refine leaves_cons (f:=36) (args:= #[.pointer (some ⟨a.heap.size+1,0,none⟩),.pointer (some ⟨a.heap.size+1+1,0,none⟩)]) Qd Qk ?_;refine(tb _ _ _).mono ?_;rintro e aG aF ⟨rfl,rfl,rfl⟩;have ac:=ag.out.b1.cell;have ab:=ag.out.b2.cell;refine(show Leaves _ _ _ _ [] .returning _ from ?_);refine⟨.tuple #[.string ⟨#[]⟩,.int i64 0],?_,by rw[ad.out];rfl,ag.out.e⟩;simp[results,results13,go_sem,ac,ab]
  |error q=>
   obtain⟨nm,en⟩:=q;have ad:=O (show gF p=(nm,en)from al.out);go_enter_defers func13,ntmps13;go_wp2_with (first|(go_at_call 35;refine(ai.out _ R.out.e).mono ?_;rintro e j ⟨rfl,A⟩;have o:=O (R.out.ex A);have aM:=o.out.b0.cell;have an:=O (BH j (.slice z n c) (.slice B m d) (aB.out.ext o.out.e));have ap:=O ((((Z j (.map #[] 0)).alloc' (.map #[] 0)).alloc' (.map #[] 0)).alloc' (.cells #[.slice z n c,.slice B m d,.map (some j.heap.size),.map (some (j.heap.size+1)),.map (some (j.heap.size+1+1)),.map none] 108));have aH:=o.out.lt;have M:=O (o.out.ex ap.out);clear A)|(go_at_call 37;refine(aC.out ⟨j.heap.size+1+1+1,j.heap.size,j.heap.size+1,j.heap.size+1+1,.slice z n c,.slice B m d⟩ ⟨by simp only;omega,by simp only;omega,by simp only;omega,by simp only;omega,by simp only;omega,by simp only;omega⟩ (by simp only;omega) _ (aj.out.keep (.of_ext M.out.e) (λb w _=>w)) (ao.out.keep (.of_ext M.out.e) (λb w _=>w)) (λb w G=>by simp only[CB.U,CB.S]at G;omega) an.out).mono ?_;unfold Ie cu bq;rintro e ar ⟨V,rfl⟩;have K:=O (M.out.mv V (λk aI G=>by simp only[CB.U,CB.S]at G;omega));clear V));refine leaves_cons (f:=36) (args:= #[.pointer (some ⟨a.heap.size+1,0,none⟩),.pointer (some ⟨a.heap.size+1+1,0,none⟩)]) Qd Qk ?_;refine(rZ a ar _ _ _ _ nm en _ K.out).mono ?_;rintro e aG aF ⟨rfl,rfl,aq⟩;have ac:=aq.b1.cell;have ab:=aq.b2.cell;refine(show Leaves _ _ _ _ [] .returning _ from ?_);refine⟨.tuple #[.string (J nm),.int i64 en],?_,by rw[ad.out],aq.e⟩;simp[results,results13,go_sem,ac,ab]
def tE (p:Pg):List UInt8×Int:=if gx p then(iZ p,0)else([],1)
theorem yn (p:Pg) (af:jo p<=6000000) (P:Nat->Prop) (a:World) (G B:Option Addr) (n c m d:Nat) (K:ik a P (.slice G n c) p.vs) (M:jl a P (.slice B m d) p.fs) (ab:dP a a.heap.size):
  Calls prog 31 #[.agg #[.slice G n c,.slice B m d]] a λe w'=>e=.returned (.tuple #[.string (J (tE p).1),.int i64 (tE p).2])/\az a w':=by
 have z:=Z a (.cells #[.slice G n c,.slice B m d] 34);have ac:=O z;have I:=O (aw a 34 #[.slice G n c,.slice B m d]);have A:=O (rV p af P _ G B n c m d (K.keep (.of_ext z) (Q:=P) (λ_ o _=>o)) (M.keep (.of_ext z) (Q:=P) (λ_ o _=>o)) (dN ab z))
 cases hok:gx p with
 |false=>
  have X:=O (show tE p=([],1) by unfold tE;rw[hok];rfl);rw[hok]at A;clear K M z hok;go_enter func31,ntmps31;go_wp2_with (go_at_call 35;refine A.out.mono ?_;rintro e ae ⟨rfl,j⟩;have R:=O (ac.out.trans j);clear j A I);go_ret2;exact⟨by rw[X.out];rfl,R.out⟩
 |true=>
  have X:=O (show tE p=(iZ p,0) by unfold tE;rw[hok];rfl)
  have ad:=O (fun(W:World) (V:az a W)=>pE p (λf ai=>by
    have w:=hok;unfold gx at w;simp only[ag,cf]at w;exact kr (w.1.1.1.2 f ai)) (λv ah=>by
    have w:=hok;unfold gx at w;simp only[ag,cf]at w;have:=w.1.1.1.1 v ah;unfold pd at this;simp only[ag,decide_eq_true_eq]at this
    omega) P W G B n c m d (K.keep (.of_ext V) (Q:=P) (λ_ o _=>o)) (M.keep (.of_ext V) (Q:=P) (λ_ o _=>o)) (dN ab V) (by have:=tJ hok;omega))
  rw[hok]at A;generalize iZ p=S at*;clear K M z hok;go_enter func31,ntmps31;go_wp2_with (first|(go_at_call 35;refine A.out.mono ?_;rintro e ae ⟨rfl,j⟩;have R:=O (ac.out.trans j);have al:=(I.out.ext j).cell;clear j A I)|(go_at_call 57;refine(ad.out _ R.out).mono ?_;rintro e ak ⟨rfl,j⟩;have aj:=O (R.out.trans j);clear j ad));go_ret2;exact⟨by rw[X.out];rfl,aj.out⟩
theorem Fs:fZ 1=[49]:=by rw[fZ];rfl
def EJ:List UInt8:=[102,117,110,99,32,109,97,105,110,40,41,32,123,32,114,101,116,117,114,110,32,51,48,48,59,32,125]
def EH:List UInt8:=[118,97,114,32,97,91,51,93,59,32,102,117,110,99,32,109,97,105,110,40,41,32,123,32,97,91,51,93,32,61,32,49,59,32,125]
def mE:Pg:=ko (.mk 1 [] [] [] 300 [])
def ly:Pg:=⟨[⟨[97],3⟩],[⟨bW,[],[.mk 3 [97] [.mk 1 [] [] [] 3 [],.mk 1 [] [] [] 1 []] [] []]⟩]⟩
def Cw:List bT:=[⟨2,[102,117,110,99],0,0⟩,⟨1,[109,97,105,110],0,5⟩,⟨5,[40],0,9⟩,⟨5,[41],0,10⟩,⟨5,[123],0,12⟩,⟨2,[114,101,116,117,114,110],0,14⟩,⟨3,[],300,21⟩,⟨5,[59],0,24⟩,⟨5,[125],0,26⟩]
def Ct:List bT:=[⟨2,[118,97,114],0,0⟩,⟨1,[97],0,4⟩,⟨5,[91],0,5⟩,⟨3,[],3,6⟩,⟨5,[93],0,7⟩,⟨5,[59],0,8⟩,⟨2,[102,117,110,99],0,10⟩,⟨1,[109,97,105,110],0,15⟩,⟨5,[40],0,19⟩,⟨5,[41],0,20⟩,⟨5,[123],0,22⟩,⟨1,[97],0,24⟩,⟨5,[91],0,25⟩,⟨3,[],3,26⟩,⟨5,[93],0,27⟩,⟨5,[61],0,29⟩,⟨3,[],1,31⟩,⟨5,[59],0,32⟩,⟨5,[125],0,34⟩]
theorem zK:gG EJ=(Cw,0,0):=Qj
theorem zH:gG EH=(Ct,0,0):=Qj
theorem zL:de 44 lS Cw=.ok (mE,[]):=Qb
theorem zI:de 84 lS Ct=.ok (ly,[]):=Qb
theorem BA:fZ 3=[51]:=by rw[fZ];rfl
theorem Cq:(iZ ly).length<=4000:=by
 have h:b_ (.mk 1 [] [] [] 1 [])=[49]:=by
  show fZ 1=[49];exact Fs
 have a:b_ (.mk 1 [] [] [] 3 [])=[51]:=by
  show fZ 3=[51];exact BA
 simp[iZ,ly,kT,kS,bK,dD,kU,eX,fu,jt,dS,bW,tm,mm,oR,zN,BA,h,a]
theorem zM:gx mE=true:=CJ Qc Qc Qc
theorem zJ:gx ly=true:=by
 unfold gx;rw[decide_eq_true Cq];decide+kernel
theorem Cv:lQ EJ=(mE,0,0):=by
 unfold lQ;rw[zK];simp only[if_true];unfold vw;rw[show de (4*Cw.length+8) lS Cw=.ok (mE,[])from zL];simp only[zM,if_true]
theorem Cs:lQ EH=(ly,0,0):=by
 unfold lQ;rw[zH];simp only[if_true];unfold vw;rw[show de (4*Ct.length+8) lS Ct=.ok (ly,[])from zI];simp only[zJ,if_true]
theorem EI:(gF mE).2=0:=by
 have:ig mE=.ok ():=CL (λg lo _=>by simp[oM,oL,CR.then]) (by simp[dZ]);unfold gF;rw[zM,this];rfl
theorem EG:(gF ly).2=0:=by
 have:ig ly=.ok ():=Qb
 unfold gF;rw[zJ,this];rfl
theorem Cu:kn mE [] 100=⟨1,0,44,0,0,[],0⟩:=by
 show Ad (ko (.mk 1 [] [] [] 300 [])) [] (199+1) (99+1)=_;rw[CH 199 99,Fq _ 198 _ _ 300 Qc Qc];rfl
theorem Cr:(kn ly [] 100).kind=2:=Qb
theorem F5:jo mE<=6000000:=Qj
theorem F4:jo ly<=6000000:=Qj
theorem Ih:qs prog 123 9 59 (.agg #[.string ⟨#[]⟩,.slice none 0 0,.slice none 0 0]):=⟨underlying123,underlying9,λa=>by kernel_rfl⟩
theorem Fh:qs prog 124 9 21 (.int .i32 0):=⟨underlying124,underlying9,λa=>by kernel_rfl⟩
theorem Ii:qs prog 125 9 40 (.slice none 0 0):=⟨underlying125,underlying9,λa=>by kernel_rfl⟩
def lD (w:World) (P:Nat->Prop) (v:Value) (R:Rs):Prop:=
 ∃A c,v=.slice A R.length c/\(R=[]\/R.length<=c/\c<=maxLen/\ ∃b o,A=some ⟨b,o,none⟩/\P b/\b<w.heap.size/\ ∃(da:Nat->Option Addr) (dc:Nat->Nat),∀i,(h:i<R.length)->w.cell? ⟨b,o+i*2,none⟩=some (.int i64 R[i].1)/\w.cell? ⟨b,o+i*2+1,none⟩=some (.slice (da i) R[i].2.length (dc i))/\Sl w (da i) (dc i) R[i].2/\ ∀b2 o2,da i=some ⟨b2,o2,none⟩->R[i].2≠ []->P b2)
theorem Sl.keepP {o w':World} {P:Nat->Prop} {j:Option Addr} {c:Nat} {l:List UInt8} (h:Sl o j c l) (w:cR P o w') (A: ∀b a,j=some ⟨b,a,none⟩->l≠ []->P b):Sl w' j c l:=by
 refine⟨h.le,h.max,h.nil,?_⟩;by_cases hl:l=[]
 ·exact .inl hl
 rcases h.rd with G|⟨b,a,ha,hb,hc⟩
 ·exact .inl G
 ·exact .inr ⟨b,a,ha,aF hb w.size,λi z=>(w.cell _ (A b a ha hl) hb).trans (hc i z)⟩
theorem lD.keep {w w':World} {P:Nat->Prop} {v:Value} {A:Rs} (o:lD w P v A) (a:cR P w w'):lD w' P v A:=by
 obtain⟨ad,c,rfl,o⟩:=o;refine⟨ad,c,rfl,o.imp id fun⟨I,X,b,O,ha,j,h,ac,ab,V⟩=>⟨I,X,b,O,ha,j,aF h a.size,ac,ab,λi R=> ?_⟩⟩;obtain⟨M,K,G,z⟩:=V i R;exact⟨(a.cell _ j h).trans M,(a.cell _ j h).trans K,G.keepP a z,z⟩
structure MX where
 g:Nat
 bf:Nat
 bi:Nat
 ba:Nat
 lo:Nat
 hi:Nat
 rb:List UInt8->Nat
 fv:List UInt8->Value
 rv:Value
 al:List UInt8->Nat
 mv:Nat
abbrev MX.S (X:MX) (k:Nat):Prop:=(X.lo<=k/\k≠X.mv)/\k<X.hi
abbrev MX.P (X:MX) (k:Nat):Prop:=k<X.lo
abbrev MX.p (X:MX):Value:=.pointer (some ⟨X.g,0,none⟩)
structure MX.Ok (X:MX):Prop where
 fi:X.bf≠X.bi
 fa:X.bf≠X.ba
 ia:X.bi≠X.ba
 g:X.S X.g
 f:X.S X.bf
 i:X.S X.bi
 a:X.S X.ba
def qj (X:MX) (σ:Ms) (s:List UInt8):Value:=if σ.arrs s=[]then .slice none 0 0 else .slice (some ⟨X.rb s,0,none⟩) (σ.arrs s).length (σ.arrs s).length
def Cf (l:List UInt8):Array Value:=(me l).toArray
structure MA (X:MX) (C:Cx) (σ:Ms) (w:World):Prop where
 ok:X.Ok
 blk: ∃lf:Int,lf.toNat=σ.left/\ -9223372036854775808<=lf/\lf<=9223372036854775807/\aU w X.g 127 #[.map (some X.bf),.map (some X.bi),.map (some X.ba),X.rv,.int i64 lf,.int i64 (σ.stk:Int),.int i64 0,.int i64 0,.int i64 0,.int i64 0,.int i64 0,.slice none 0 0,.int i64 (σ.used:Int)]
 f: ∃L,cd w X.bf L/\ ∀s,(L s).getD (.agg #[.string ⟨#[]⟩,.slice none 0 0,.slice none 0 0])=X.fv s
 fr: ∀s,∃pv bv,X.fv s=.agg #[.string (J (C.fn s).nm),pv,bv]/\mQ w X.P pv (C.fn s).ps/\db w X.P bv (C.fn s).body
 i: ∃L,cd w X.bi L/\ ∀s,(L s).getD (.int .i32 0)=.int .i32 (σ.ints s)
 a: ∃L,cd w X.ba L/\ ∀s,(L s).getD (.slice none 0 0)=qj X σ s
 row: ∀s,σ.arrs s≠ []->aU w (X.rb s) 5 (Cf (σ.arrs s))/\X.S (X.rb s)/\X.rb s≠X.g/\(σ.arrs s).length<=1073741824
 inj: ∀s t,σ.arrs s≠ []->σ.arrs t≠ []->X.rb s=X.rb t->s=t
 r:lD w X.P X.rv C.R
 used:σ.used<=C.R.length
 stk:σ.stk<=1024
 rng:lH σ
 t:BT w
 t0:X.P 0
 top:X.hi<=w.heap.size
 len: ∀s,(σ.arrs s).length=X.al s
section
variable {X:MX} {C:Cx} {σ:Ms} {w w':World}
theorem MA.mv {S:Nat->Prop} (h:MA X C σ w) (j:Mv S w w') (z: ∀k,k<X.hi-> ¬S k):MA X C σ w':=by
 have o:=h.ok;have K:=h.top;have G:cR X.P w w':=j.keepP λk G _=>z k (by have:=o.g;simp only[MX.S,MX.P]at*;omega);obtain⟨lf,ab,I,V,A⟩:=h.blk;obtain⟨ap,aj,ai⟩:=h.f;obtain⟨ao,ag,af⟩:=h.i;obtain⟨an,J,al⟩:=h.a;refine⟨o,⟨lf,ab,I,V,j.blk A (z _ o.g.2)⟩,⟨ap,j.map aj (z _ o.f.2),ai⟩,λs=> ?_,⟨ao,j.map ag (z _ o.i.2),af⟩,⟨an,j.map J (z _ o.a.2),al⟩,λs ah=> ?_,h.inj,h.r.keep G,h.used,h.stk,h.rng,?_,h.t0,aR h.top j.size,h.len⟩
 ·obtain⟨ac,ak,e,ae,ad⟩:=h.fr s;exact⟨ac,ak,e,ae.keep G (λb A _=>A),ad.keep G (λb A _=>A)⟩
 ·obtain⟨R,M,O⟩:=h.row s ah;exact⟨j.blk R (z _ M.2),M,O⟩
 ·obtain⟨t,fr,K⟩:=h.t;refine⟨t,fr,(j.block _ (Array.getElem?_eq_some_iff.1 K).1 (z _ ?_)).trans K⟩;have:=o.g;have:=h.t0;simp only[MX.S,MX.P]at*;omega
theorem MA.ext (a:MA X C σ w) (h:az w w'):MA X C σ w':=a.mv (S:=λ_=>False) (.of_ext h) (λ_ _ a=>a)
end
def jT (k:Int):Ending:=.panicked [{v:=.iface 129 (.agg #[.int i64 k]),recovered:=false}]
def iU (X:MX) (o:Oc) (w:World):Prop:=
 ∃v0 v1 v2 v3 v4 v5 A c,aU w X.g 127 #[v0,v1,v2,v3,v4,v5,.int i64 0,.int i64 o.call,.int i64 o.a0,.int i64 o.a1,.int i64 o.a2,.slice A o.data.length c,.int i64 (o.used:Int)]/\Sl w A c o.data/\ ∀b i,A=some ⟨b,i,none⟩->o.data≠ []->X.hi<=b
theorem MA.halt {j:MX} {C:Cx} {h:Ms} {a:World} (w:MA j C h a) (k:Int):iU j ⟨k,0,0,0,0,[],h.used⟩ a:=by
 obtain⟨lf,_,_,_,o⟩:=w.blk;exact⟨_,_,_,_,_,_,none,0,o,kC a,λb i e=>by cases e⟩
def Ez (X:MX) (C:Cx) (σ:Ms) (w:World) (e:Ending) (w':World):Prop:=w.grownBy w' (some X.g)/\if σ.left=0 then e=jT 3/\iU X σ.long w' else e=.returned (.tuple #[])/\MA X C σ.step w'
abbrev eo (X:MX) (lf:Int) (σ:Ms):Array Value:= #[.map (some X.bf),.map (some X.bi),.map (some X.ba),X.rv,.int i64 lf,.int i64 (σ.stk:Int),.int i64 0,.int i64 0,.int i64 0,.int i64 0,.int i64 0,.slice none 0 0,.int i64 (σ.used:Int)]
section
variable {X:MX} {C:Cx} {σ σ':Ms} {w w':World}
theorem MA.ne (h:MA X C σ w):X.bf≠X.g/\X.bi≠X.g/\X.ba≠X.g:=by
 obtain⟨lf,_,_,_,j⟩:=h.blk;obtain⟨_,z,_⟩:=h.f;obtain⟨_,o,_⟩:=h.i;obtain⟨_,A,_⟩:=h.a;exact⟨λe=>ic j (e▸z),λe=>ic j (e▸o),λe=>ic j (e▸A)⟩
theorem MA.reg (h:MA X C σ w) (j:w.grownBy w' (some X.g)) (lf:Int) (ae:lf.toNat=σ'.left) (ad: -9223372036854775808<=lf) (ac:lf<=9223372036854775807) (o:aU w' X.g 127 (eo X lf σ')) (O:σ'.ints=σ.ints) (A:σ'.arrs=σ.arrs) (an:σ'.used<=C.R.length) (z:σ'.stk<=1024):MA X C σ' w':=by
 have G:=h.ok;obtain⟨ak,aj,ai⟩:=h.ne;obtain⟨ax,ap,ao⟩:=h.f;obtain⟨aw,J,al⟩:=h.i;obtain⟨av,au,ar⟩:=h.a;have K:cR X.P w w':=.of_grown j (λb o e=>by injection e with e;subst e;have:=G.g;simp only[MX.S,MX.P]at*;omega);refine⟨G,⟨lf,ae,ad,ac,o⟩,⟨ax,ap.grown j (od ak),ao⟩,λs=> ?_,⟨aw,J.grown j (od aj),λs=>by rw[O];exact al s⟩,⟨av,au.grown j (od ai),λs=>by rw[ar s];unfold qj;rw[A]⟩,λs z=> ?_,λs t=>by rw[A];exact h.inj s t,h.r.keep K,an,z,λx=>by rw[O];exact h.rng x,h.t.grown j (λe=> ?_),h.t0,aR h.top j.size,λs=>by rw[A];exact h.len s⟩
 ·obtain⟨af,aq,e,ah,ag⟩:=h.fr s;exact⟨af,aq,e,ah.keep K (λb o _=>o),ag.keep K (λb o _=>o)⟩
 ·rw[A]at z⊢;obtain⟨ab,I,M,V⟩:=h.row s z;exact⟨ab.grown j (od M),I,M,V⟩
 ·have:=G.g;have:=h.t0;rw[<-e]at this;simp only[MX.S,MX.P]at*;omega
theorem cH (w:World) (g i:Nat) (v:Value):w.grownBy (w.setCell ⟨g,i,none⟩ v) (some g):=⟨rfl,rfl,rfl,by simp[World.setCell],λk _ a=>Below.heap_setCell w _ _ k (λe=>a (by rw[e]))⟩
theorem MA.dec (a:MA X C σ w) {lf:Int} (h:aU w X.g 127 (eo X lf σ)) (o:lf.toNat=σ.left) (z: ¬lf<=0) (j:lf<=9223372036854775807):MA X C σ.step (w.setCell ⟨X.g,4,none⟩ (.int i64 (lf-1))):=by
 refine a.reg (cH w X.g 4 _) (lf-1) (by show _=σ.left-1;omega) Qa Qa ?_ rfl rfl a.used a.stk;have e:(eo X lf σ).setIfInBounds 4 (.int i64 (lf-1))=eo X (lf-1) σ.step:=rfl;rw[<-e];exact h.set 4 _
end
theorem qX (a:MX) (C:Cx) (w:Ms) (z:World) (o:MA a C w z):Calls prog 162 #[a.p] z (Ez a C w z):=by
 obtain⟨lf,V,ai,R,j⟩:=o.blk;have G:=O (o.halt 3);have al:=j.cell;have ak:=j.frozen;unfold Ez;by_cases h0:lf<=0
 ·have A:w.left=0:=Qa
  simp only[if_pos A];clear o j;obtain⟨g,ad,ac,ae,lo,I,M,ab,K,af,X⟩:=a;simp only[MX.p]at*;go_enter func162,ntmps162;go_wp2_with fail;exact⟨rfl,World.grownBy.refl _ _,rfl,G.out⟩
 ·have A: ¬w.left=0:=Qa
  simp only[if_neg A];have aj:IntKind.i64.wrap (lf-1)=lf-1:=Qf
  have ah:=O (o.dec j V h0 R);have ag:=O (cH z a.g 4 (.int i64 (lf-1)));clear o j G;obtain⟨g,ad,ac,ae,lo,I,M,ab,K,af,X⟩:=a;simp only[MX.p]at*;go_enter func162,ntmps162;go_wp2_with fail;exact bodyPost_end (results_none rfl _ _ _) rfl ⟨ag.out,rfl,ah.out⟩
theorem nU (b:Bool) (a:World):Calls prog 188 #[.bool b] a λe w'=>e=.returned (.int .i32 (nR b))/\az a w':=by
 cases b;all_goals
  go_enter func188,ntmps188;go_wp2_with fail;go_ret;exact⟨rfl,aS _⟩
theorem zB {a b:Int} (ha:jH a):jH (a.tmod b):=by
 unfold jH at ha⊢;have o:(a.tmod b).natAbs<=a.natAbs:=by rw[Int.natAbs_tmod];exact Nat.mod_le _ _
 by_cases h:0<=a
 ·have:=Int.tmod_nonneg b h;omega
 ·have j:0<=(-a).tmod b:=Int.tmod_nonneg b Qa;rw[Int.neg_tmod]at j;omega
def v8:ER Int->Ending
 | .ok (v,_)=> .returned (.int .i32 v)
 | .error _=>jT 2
theorem qh (op:List UInt8) (w b:Int) (ha:jH w) (X:jH b) (z:Ms) (M:World):Calls prog 189 #[.string (J op),.int .i32 w,.int .i32 b] M λe w'=>e=v8 (kA op w b z)/\az M w':=by
 unfold jH at ha X;have A:=O (λc W=>nU c W);have ak: ∀R:Int,IntKind.i32.wrap R=m9 R:=λ_=>rfl;have j:=O (aS M);by_cases h1:op=[43]
 ·subst h1;go_enter func189,ntmps189;go_wp2_with fail;go_ret;exact⟨rfl,j.out⟩
 by_cases h2:op=[45]
 ·subst h2;go_enter func189,ntmps189;go_wp2_with fail;go_ret;exact⟨rfl,j.out⟩
 by_cases h3:op=[42]
 ·subst h3;go_enter func189,ntmps189;go_wp2_with fail;go_ret;exact⟨rfl,j.out⟩
 by_cases h4:op=[47]
 ·subst h4;by_cases hb0:b=0
  ·subst hb0;go_enter func189,ntmps189;go_wp2_with fail;exact⟨rfl,rfl,j.out⟩
  ·have V:=Ql.2 hb0;have K:=O (show kA [47] w b z=.ok (m9 (w.tdiv b),z) by simp[kA,hb0]);go_enter func189,ntmps189;go_wp2_with fail;go_ret;exact⟨by rw[K.out];rfl,j.out⟩
 by_cases h5:op=[37]
 ·subst h5;by_cases hb0:b=0
  ·subst hb0;go_enter func189,ntmps189;go_wp2_with fail;exact⟨rfl,rfl,j.out⟩
  ·have V:=Ql.2 hb0;have K:=O (show kA [37] w b z=.ok (m9 (w.tmod b),z) by simp[kA,hb0]);go_enter func189,ntmps189;go_wp2_with fail;go_ret;exact⟨by rw[K.out,zj (zB ha)];rfl,j.out⟩
 by_cases h6:op=[61,61]
 ·subst h6;go_enter func189,ntmps189;go_wp2_with (go_at_call 188;refine(A.out _ _).mono ?_;rintro e G ⟨rfl,a⟩;have o:=O (j.out.trans a);clear a);go_ret;exact⟨rfl,o.out⟩
 by_cases h7:op=[33,61]
 ·subst h7;go_enter func189,ntmps189;go_wp2_with (go_at_call 188;refine(A.out _ _).mono ?_;rintro e G ⟨rfl,a⟩;have o:=O (j.out.trans a);clear a);go_ret;exact⟨rfl,o.out⟩
 by_cases h8:op=[60]
 ·subst h8;go_enter func189,ntmps189;go_wp2_with (go_at_call 188;refine(A.out _ _).mono ?_;rintro e G ⟨rfl,a⟩;have o:=O (j.out.trans a);clear a);go_ret;exact⟨rfl,o.out⟩
 by_cases h9:op=[60,61]
 ·subst h9;go_enter func189,ntmps189;go_wp2_with (go_at_call 188;refine(A.out _ _).mono ?_;rintro e G ⟨rfl,a⟩;have o:=O (j.out.trans a);clear a);go_ret;exact⟨rfl,o.out⟩
 by_cases h10:op=[62]
 ·subst h10;go_enter func189,ntmps189;go_wp2_with (go_at_call 188;refine(A.out _ _).mono ?_;rintro e G ⟨rfl,a⟩;have o:=O (j.out.trans a);clear a);go_ret;exact⟨rfl,o.out⟩
 have aj:=Ql.2 h1;have ah:=Ql.2 h2;have ag:=Ql.2 h3;have af:=Ql.2 h4;have ae:=Ql.2 h5;have ad:=Ql.2 h6;have ac:=Ql.2 h7;have ab:=Ql.2 h8;have I:=Ql.2 h9;have ai:=Ql.2 h10
 have K:=O (show kA op w b z=.ok (nR (decide (b<=w)),z) by
  unfold kA
  rw[if_neg h1,if_neg h2,if_neg h3,if_neg (by simp[h4,h5]),if_neg h6,if_neg h7,if_neg h8,if_neg h9,if_neg h10])
 go_enter func189,ntmps189;go_wp2_with (go_at_call 188;refine(A.out _ _).mono ?_;rintro e G ⟨rfl,a⟩;have o:=O (j.out.trans a);clear a);go_ret;exact⟨by rw[K.out];rfl,o.out⟩
section
variable {X:MX} {C:Cx} {σ σ':Ms} {w w':World}
theorem MA.lookA (h:MA X C σ w) {s:List UInt8} (z:s.length<=1073741824):(Instr.lookup 125 (.map (some X.ba)) (.string (J s)) false).run prog w=.ok (qj X σ s) w:=by
 obtain⟨L,o,j⟩:=h.a;rw[(o.look Ii Qg).1,j]
theorem MA.lookI (a:MA X C σ w) {s:List UInt8} (o:s.length<=1073741824):(Instr.lookup 124 (.map (some X.bi)) (.string (J s)) false).run prog w=.ok (.int .i32 (σ.ints s)) w:=by
 obtain⟨L,j,h⟩:=a.i;rw[(j.look Fh Qg).1,h]
theorem MA.mcell (j:MA X C σ w): ∃lf:Int,lf.toNat=σ.left/\aU w X.g 127 (eo X lf σ):=by
 obtain⟨lf,a,_,_,h⟩:=j.blk;exact⟨lf,a,h⟩
end
def iQ (X:MX) (σ:Ms) (nm:List UInt8) (i:Int):Ending:=if 0<=i/\i<(σ.arrs nm).length then .returned (.pointer (some ⟨X.rb nm,i.toNat,none⟩))else jT 2
theorem jW (a:MX) (C:Cx) (j:Ms) (G:World) (M:MA a C j G) (nm:List UInt8) (ai:nm.length<=1073741824) (i:Int) (z:jH i):
  Calls prog 166 #[a.p,.string (J nm),.int .i32 i] G λe w'=>e=iQ a j nm i/\az G w':=by
 have ac:=M.lookA ai;obtain⟨lf,_,ah⟩:=M.mcell;have ao:=ah.cell;have R:=O (aS G);unfold jH at z;have K:=M.row nm;clear M ah;by_cases h0:i<0
 ·have o:=O (show iQ a j nm i=jT 2 by unfold iQ;rw[if_neg Qa]);have al:decide (i<0)=true:=decide_eq_true h0;obtain⟨g,ae,ad,af,lo,z,X,ab,V,ag,I⟩:=a;simp only[MX.p,eo]at*;generalize qj _ j nm=ap at*;go_enter func166,ntmps166;go_wp2_with fail;exact⟨rfl,by rw[o.out];rfl,R.out⟩
 ·obtain⟨k,rfl⟩:=d6 (show 0<=i by omega);have al:decide ((k:Int)<0)=false:=decide_eq_false h0;have an:IntKind.i64.wrap (k:Int)=k:=Qf
  by_cases he:j.arrs nm=[]
  ·have o:=O (show iQ a j nm k=jT 2 by unfold iQ;rw[he,if_neg Qd]);have A:qj a j nm=.slice none 0 0:=by unfold qj;rw[if_pos he]
   rw[A]at ac;obtain⟨g,ae,ad,af,lo,z,X,ab,V,ag,I⟩:=a;simp only[MX.p,eo]at*;clear K;go_enter func166,ntmps166;go_wp2_with fail;exact⟨rfl,by rw[o.out];rfl,R.out⟩
  ·have A:qj a j nm=.slice (some ⟨a.rb nm,0,none⟩) (j.arrs nm).length (j.arrs nm).length:=by unfold qj;rw[if_neg he]
   obtain⟨_,_,_,aj⟩:=K he;rw[A]at ac;obtain⟨n,w⟩: ∃n,(j.arrs nm).length=n:=⟨_,rfl⟩
   rw[w]at ac aj;by_cases hk:k<n
   ·have ak:(k:Int)<n:=Qa
    have o:=O (show iQ a j nm k=.returned (.pointer (some ⟨a.rb nm,k,none⟩)) by unfold iQ;rw[w,if_pos Qa];rfl);obtain⟨g,ae,ad,af,lo,z,X,ab,V,ag,I⟩:=a;simp only[MX.p,eo]at*;clear w A K;go_enter func166,ntmps166;go_wp2_with fail;go_ret;exact⟨by rw[o.out];simp,R.out⟩
   ·have ak: ¬(k:Int)<n:=Qa
    have o:=O (show iQ a j nm k=jT 2 by unfold iQ;rw[w,if_neg Qa]);obtain⟨g,ae,ad,af,lo,z,X,ab,V,ag,I⟩:=a;simp only[MX.p,eo]at*;clear w A K;go_enter func166,ntmps166;go_wp2_with fail;exact⟨rfl,by rw[o.out];rfl,R.out⟩
def A8 (l:Lo):KF:=λs=>(l s).map (.int .i32)
abbrev i7 (lb:Nat) (ret:Option Int):Array Value:= #[.map (some lb),.bool ret.isSome,.int .i32 (ret.getD 0)]
structure FR (fb lb:Nat) (l:Lo) (ret:Option Int) (w:World):Prop where
 blk:aU w fb 182 (i7 lb ret)
 m:cd w lb (A8 l)
 rng:rK l
section
variable {X:MX} {C:Cx} {σ σ':Ms} {w w':World} {fb lb:Nat} {l:Lo} {ret:Option Int}
theorem FR.ne (a:FR fb lb l ret w):lb≠fb:=λe=>ic a.blk (e▸a.m)
theorem FR.mv {S:Nat->Prop} (a:FR fb lb l ret w) (h:Mv S w w') (o: ¬S fb) (j: ¬S lb):FR fb lb l ret w':=⟨h.blk a.blk o,h.map a.m j,a.rng⟩
theorem FR.ext (a:FR fb lb l ret w) (h:az w w'):FR fb lb l ret w':=⟨a.blk.ext h,a.m.ext h,a.rng⟩
theorem FR.look (a:FR fb lb l ret w) {s:List UInt8} (h:s.length<=1073741824):(Instr.lookup 124 (.map (some lb)) (.string (J s)) true).run prog w=.ok (.tuple #[.int .i32 ((l s).getD 0),.bool (l s).isSome]) w:=by
 rw[(a.m.look Fh Qg).2];simp only[A8]
 cases l s<;>rfl
theorem FR.upd {nm:List UInt8} {v:Int} (a:FR fb lb l ret w) (h:jH v) (j:cd w' lb ((A8 l).upd nm (.int .i32 v))) (o:w.grownBy w' (some lb)):FR fb lb (l.upd nm v) ret w':=by
 refine⟨a.blk.grown o (od (gp a.ne)),j.congr λs=> ?_,a.rng.upd h⟩;unfold KF.upd A8 Lo.upd;by_cases e:s=nm
 ·rw[if_pos e,if_pos e];rfl
 ·rw[if_neg e,if_neg e]
theorem MA.setI {nm:List UInt8} {v:Int} {L:KF} (h:MA X C σ w) (af:jH v) (ai: ∀s,(L s).getD (.int .i32 0)=.int .i32 (σ.ints s)) (ah:cd w' X.bi (L.upd nm (.int .i32 v))) (j:w.grownBy w' (some X.bi)):MA X C (σ.setI nm v) w':=by
 have o:=h.ok;obtain⟨lf,I,V,R,z⟩:=h.blk;obtain⟨ap,ak,aj⟩:=h.f;obtain⟨ao,an,J⟩:=h.a;have A:cR X.P w w':=.of_grown j (λb z e=>by injection e with e;subst e;have:=o.i;have:=o.g;simp only[MX.S,MX.P]at*;omega);refine⟨o,⟨lf,I,V,R,z.grown j (od (gp h.ne.2.1))⟩,⟨ap,ak.grown j (od o.fi),aj⟩,λs=> ?_,⟨_,ah,λs=> ?_⟩,⟨ao,an.grown j (od (gp o.ia)),J⟩,λs ag=> ?_,h.inj,h.r.keep A,h.used,h.stk,h.rng.setI af,h.t.grown j (λe=> ?_),h.t0,aR h.top j.size,h.len⟩
 ·obtain⟨ab,al,e,ad,ac⟩:=h.fr s;exact⟨ab,al,e,ad.keep A (λb z _=>z),ac.keep A (λb z _=>z)⟩
 ·show((L.upd nm (.int .i32 v)) s).getD _=.int .i32 (if s=nm then v else σ.ints s);unfold KF.upd;split
  ·rfl
  ·exact ai s
 ·obtain⟨G,O,M,K⟩:=h.row s ag;refine⟨G.grown j (od λe=> ?_),O,M,K⟩;obtain⟨_,ae,_⟩:=h.i;exact ic G (e▸ae)
 ·have:=o.i;have:=h.t0;rw[<-e]at this;simp only[MX.S,MX.P]at*;omega
end
def GT (X:MX) (C:Cx) (σ:Ms) (fb lb:Nat) (l:Lo) (ret:Option Int) (nm:List UInt8) (v:Int) (w:World) (e:Ending) (w':World):Prop:=
 e=.returned (.tuple #[])/\Mv (λk=>k=lb\/k=X.bi) w w'/\if(l nm).isSome=true then MA X C σ w'/\FR fb lb (l.upd nm v) ret w' else MA X C (σ.setI nm v) w'/\FR fb lb l ret w'
theorem qi (a:MX) (C:Cx) (ac:Ms) (j:World) (w:MA a C ac j) (V A:Nat) (l:Lo) (ad:Option Int) (z:FR V A l ad j) (I:a.hi<=V/\a.hi<=A) (nm:List UInt8) (an:nm.length<=1073741824) (v:Int) (ag:jH v):
  Calls prog 165 #[a.p,.pointer (some ⟨V,0,none⟩),.string (J nm),.int .i32 v] j (GT a C ac V A l ad nm v j):=by
 have ah:=z.look an;have aE:=z.blk.cell;obtain⟨lf,_,ab⟩:=w.mcell;have aD:=ab.cell;have R:=w.ok;unfold GT
 cases hl:(l nm).isSome with
 |true=>
  simp only[if_true];rw[hl]at ah;have X:=O z;have az:=O (λW (K:j.grownBy W (some A))=>w.mv (.of_grown (S:=λk=>k=A) K (λk e=>by injection e with e;exact e.symm)) (λk aC e=>by have:=I.2;omega));clear w z ab R;obtain⟨g,au,ar,av,lo,ap,ak,aq,aj,aw,al⟩:=a;simp only[MX.p,eo,i7]at*;generalize (l nm).getD 0=q at*;go_enter func165,ntmps165;go_wp2_with (at_mapUpdate;refine cZ Fh rfl _ _ _ rfl X.out.m rfl Qg rfl _ rfl ?_;intro ai G o;have M:=O o;have aB:=O (X.out.upd ag G o);clear G o);exact bodyPost_ret (results_none rfl _ _ _) rfl ⟨rfl,.of_grown M.out (λk e=>by injection e with e;exact .inl e.symm),az.out _ M.out,aB.out⟩
 |false=>
  simp only[aT,if_false];rw[hl]at ah;obtain⟨L,af,ae⟩:=w.i;have aA:=O af;have ay:=O (λW (ao:cd W a.bi (L.upd nm (.int .i32 v))) (K:j.grownBy W (some a.bi))=>w.setI ag ae ao K);have X:=O (λW (K:j.grownBy W (some a.bi))=>z.mv (.of_grown (S:=λk=>k=a.bi) K (λk e=>by injection e with e;exact e.symm)) (λe=>by have:=R.i;have:=I.1;simp only[MX.S]at*;omega) (λe=>by have:=R.i;have:=I.2;simp only[MX.S]at*;omega));clear w z ab R af ae;obtain⟨g,au,ar,av,lo,ap,ak,aq,aj,aw,al⟩:=a;simp only[MX.p,eo,i7]at*;generalize (l nm).getD 0=q at*;go_enter func165,ntmps165;go_wp2_with (at_mapUpdate;refine cZ Fh rfl _ _ _ rfl aA.out rfl Qg rfl _ rfl ?_;intro ai G o;have M:=O o;have ax:=O (ay.out _ G o);clear G o);exact bodyPost_end (results_none rfl _ _ _) rfl ⟨rfl,.of_grown M.out (λk e=>by injection e with e;exact .inr e.symm),ax.out,X.out _ M.out⟩
structure DQ (w:World) (pb fb lb:Nat) (P:Nat->Prop) (l:Lo) (ret:Option Int) (cs:Array Value) (bd el:List St) (A2 A3:Option Addr) (c2 c3:Nat) (W:World):Prop where
 gr:w.grownBy W (some lb)
 fr:FR fb lb l ret W
 bk:aU W pb 72 cs
 rb:db W P (.slice A2 bd.length c2) bd
 rl:db W P (.slice A3 el.length c3) el
 hP: ∀b,P b->b≠lb
 ne:lb≠pb
section
variable {w W W':World} {pb fb lb:Nat} {P:Nat->Prop} {l l':Lo} {ret:Option Int} {cs:Array Value} {bd el:List St} {A2 A3:Option Addr} {c2 c3:Nat}
theorem DQ.ext (a:DQ w pb fb lb P l ret cs bd el A2 A3 c2 c3 W) (h:az W W'):DQ w pb fb lb P l ret cs bd el A2 A3 c2 c3 W':=
 ⟨a.gr.trans (h.grownBy _),a.fr.ext h,a.bk.ext h,a.rb.keep (.of_ext h) (λb j _=>j),a.rl.keep (.of_ext h) (λb j _=>j),a.hP,a.ne⟩
theorem DQ.grown (a:DQ w pb fb lb P l ret cs bd el A2 A3 c2 c3 W) (j:W.grownBy W' (some lb)) (z:FR fb lb l' ret W'):DQ w pb fb lb P l' ret cs bd el A2 A3 c2 c3 W':=by
 have o:cR P W W':=.of_grown j (λb h e=>a.hP b h (by injection e));exact⟨a.gr.trans j,z,a.bk.grown j (λe=>a.ne (by injection e with e;exact e.symm)),a.rb.keep o (λb h _=>h),a.rl.keep o (λb h _=>h),a.hP,a.ne⟩
end
theorem yP {l:Lo} {xs:List St} {a:Nat} (h:a<xs.length):iu l (xs.drop a)=iu (yO l xs[a]) (xs.drop (a+1)):=by
 rw[aD h,iu]
def Ic (fb lb:Nat) (l:Lo) (ret:Option Int) (w:World) (e:Ending) (w':World):Prop:=e=.returned (.tuple #[])/\w.grownBy w' (some lb)/\FR fb lb l ret w'
def GE (xs:List St):Prop:= ∀(g fb lb:Nat) (l:Lo) (ret:Option Int) (P:Nat->Prop) (w:World) (A:Option Addr) (n c:Nat),FR fb lb l ret w->db w P (.slice A n c) xs->(∀b,P b->b≠lb)->
 Calls prog 85 #[.pointer (some ⟨g,0,none⟩),.pointer (some ⟨fb,0,none⟩),.slice A n c] w (Ic fb lb (iu l xs) ret w)
theorem ud (xs:List St) (bl:xs.length<=1073741824) (aV: ∀s∈xs,s.nm.length<=1073741824) (a3: ∀s∈xs,GE s.body/\GE s.els):GE xs:=by
 intro g I G l V P ap bJ n c a2 aH X;obtain⟨bI,bG,bi,w⟩:=aH.form;injection bi with bh bg bf;subst bh bg bf;have aO:=O aH;have bd:=O a3;have ba:=O aV;have bp:=O a2;obtain⟨N,av⟩: ∃N,xs.length=N:=⟨_,rfl⟩
 have bb:=O av;rw[av]at aO bl;obtain⟨ao,aG⟩: ∃bm,iu l xs=bm:=⟨_,rfl⟩
 have bo:=O (show iu l (xs.drop 0)=ao from aG);have bn:=O (World.grownBy.refl ap (some G));clear aH w a3 a2 aV;rw[av,aG];clear av aG;go_enter func85,ntmps85;go_wp2_with fail
 go_loopw [10] (λaC wr=> ∃(o:Nat) (A:Lo),aC=.int i64 (o:Int)/\o<=N/\Hid (iu A (xs.drop o)=ao)/\Hid (ap.grownBy wr (some G))/\Hid (FR I G A V wr)) (λaC _=>N-(intOf aC).toNat)
 case atStart=>exact⟨0,l,rfl,aI _,bo,bn,bp⟩
 case round=>
  obtain⟨o,A,rfl,bz,aP,aM,aQ⟩:=hrel;by_cases hlt:o<N
  ·have bj:(o:Int)<N:=Qa
   have aq:o<xs.length:=by have:=bb.out;omega
   obtain⟨b,bv,e,bH,bx,rfl,j,aj,az,ax,a9,a5,a4,ar,ai,ah⟩:=aO.out.at_ o aq;have R:=yP (l:=A) aq;have aW:=ba.out _ (ay aq);have ak:=bd.out _ (ay aq);obtain⟨y,aT⟩: ∃y,xs[o]=y:=⟨_,rfl⟩
   rw[aT]at az ax ar ai ah R aW ak;clear aT;obtain⟨k,nm,aJ,M,ab⟩:=y;simp only[St.k,St.nm,St.ex,St.body,St.els]at az ax ar ai ah aW ak;have K:cR P ap wr:=.of_grown aM.out (λb j e=>X b j (by injection e));have bF:=(K.cell _ aj j).trans az;have bE:=(K.cell _ aj j).trans ax;have bD:=(K.cell _ aj j).trans a9;have bC:=(K.cell _ aj j).trans a5;have bB:=(K.cell _ aj j).trans a4;obtain⟨aS,aK,rfl,_⟩:=ar.form;obtain⟨ag,ad,rfl,_⟩:=ai.form;obtain⟨af,ac,rfl,_⟩:=ah.form;have al:=Z wr (.cells #[.int i64 k,.string (J nm),.slice aS aJ.length aK,.slice ag M.length ad,.slice af ab.length ac] 72)
   have a:=O (show DQ ap wr.heap.size I G P A V #[.int i64 k,.string (J nm),.slice aS aJ.length aK,.slice ag M.length ad,.slice af ab.length ac] M ab ag af ad ac (wr.alloc (.cells #[.int i64 k,.string (J nm),.slice aS aJ.length aK,.slice ag M.length ad,.slice af ab.length ac] 72))from
    ⟨aM.out.trans (al.grownBy _),aQ.out.ext al,aw wr _ _,(ai.keep K (Q:=P) (λb j _=>j)).keep (.of_ext al) (λb j _=>j),(ah.keep K (Q:=P) (λb j _=>j)).keep (.of_ext al) (λb j _=>j),X,na aQ.out.m.lt⟩)
   have be:=O ak.1;have bc:=O ak.2;clear az ax a9 a5 a4 ar ai ah ak al K aO bd ba;rw[yO]at R;by_cases hk1:k=1
   ·subst hk1;rw[if_pos rfl]at R;obtain⟨aD,a1⟩: ∃x,A.upd nm 0=x:=⟨_,rfl⟩
    rw[a1]at R;have aR:=O (show iu (iu (iu aD M) ab) (xs.drop (o+1))=ao from R.symm.trans aP.out);go_wp2_with fail;refine aB 6 1 [] mixed Qb trivial ?_;repeat (refine sx ?_ (λbu aF=> ?_) ?_;rotate_left;(focus have an:=(a.out.ext aF.un).bk.cell;have bA:=(a.out.ext aF.un).fr.blk.cell;clear aF;go_simp<;>with_reducible rfl);simp only[a8,a7,a6,aZ,aY])
    intro bt aU _;simp only[ae,au];replace a:=O (a.out.ext aU.un);clear aU;have aN:True:=trivial;go_wp2_with (first|(at_mapUpdate;refine cZ Fh rfl _ _ _ rfl a.out.fr.m rfl Qg rfl _ rfl ?_;intro br aX aE;replace a:=O (a.out.grown aE (a.out.fr.upd Qc aX aE));rw[a1]at a;clear aX aE;have an:=a.out.bk.cell)|(go_at_call 85;clear aN;refine(be.out g I G aD V P _ ag _ ad a.out.fr a.out.rb X).mono ?_;rintro e aA ⟨rfl,z,w⟩;replace a:=O (a.out.grown z w);clear z w;(try clear an);have an:=a.out.bk.cell)|(go_at_call 85;refine(bc.out g I G (iu aD M) V P _ af _ ac a.out.fr a.out.rl X).mono ?_;rintro e aA ⟨rfl,z,w⟩;replace a:=O (a.out.grown z w);clear z w));go_roundw
    case rel=>exact⟨o+1,_,by go_num,by omega,aR,O a.out.gr,O a.out.fr⟩
    case measure=>simp[intOf];omega
   ·rw[if_neg hk1]at R;have aR:=O (show iu (iu (iu A M) ab) (xs.drop (o+1))=ao from R.symm.trans aP.out);have bw:=Ql.2 hk1;have aN:True:=trivial;go_wp2_with (first|(go_at_call 85;clear aN;refine(be.out g I G A V P _ ag _ ad a.out.fr a.out.rb X).mono ?_;rintro e aA ⟨rfl,z,w⟩;replace a:=O (a.out.grown z w);clear z w;(try clear an);have an:=a.out.bk.cell)|(go_at_call 85;refine(bc.out g I G (iu A M) V P _ af _ ac a.out.fr a.out.rl X).mono ?_;rintro e aA ⟨rfl,z,w⟩;replace a:=O (a.out.grown z w);clear z w));go_roundw
    case rel=>exact⟨o+1,_,by go_num,by omega,aR,O a.out.gr,O a.out.fr⟩
    case measure=>simp[intOf];omega
  ·have bj: ¬(o:Int)<N:=Qa
   have bq:=O (show A=ao by
    have:=aP.out;rw[aL (by have:=bb.out;omega),iu]at this
    exact this)
   go_wp2_with fail;exact bodyPost_end (results_none rfl _ _ _) rfl ⟨rfl,aM.out,by rw[<-bq.out];exact aQ.out⟩
theorem m6: ∀(m:Nat) (xs:List St),fP xs<=m->fP xs<=1073741824->GE xs
 |0,xs,h,hw=>ud xs (by have:=dF xs;omega) (λs a=>by have:=bO a;have:=s.wt_eq;omega) (λs a=>by have:=bO a;have:=s.wt_eq;omega)
 |m+1,xs,h,hw=>ud xs (by have:=dF xs;omega) (λs a=>by have:=bO a;have:=s.wt_eq;omega)
   (λs a=>⟨m6 m s.body (by have:=bO a;have:=s.wt_eq;omega) (by have:=bO a;have:=s.wt_eq;omega),m6 m s.els (by have:=bO a;have:=s.wt_eq;omega) (by have:=bO a;have:=s.wt_eq;omega)⟩)
end
section
end
section
open Go.RowKit
def wg (X:MX) (C:Cx) (w:World) (r:ER Int) (e:Ending) (w':World):Prop:=Mv X.S w w'/\match r with
 | .ok (v,σ)=>e=.returned (.int .i32 v)/\MA X C σ w'
 | .error o=>e=jT o.kind/\iU X o w'
abbrev MX.T (X:MX) (fb lb:Nat) (k:Nat):Prop:=X.S k\/k=fb\/k=lb
def B5 (X:MX) (C:Cx) (fb lb:Nat) (w:World) (r:m7) (e:Ending) (w':World):Prop:=Mv (X.T fb lb) w w'/\match r with
 | .ok (p,σ)=>e=.returned (.tuple #[])/\MA X C σ w'/\FR fb lb p.2 p.1 w'
 | .error o=>e=jT o.kind/\iU X o w'
def D' (X:MX) (C:Cx) (w:World) (r:ER (Int×List UInt8)) (e:Ending) (w':World):Prop:=w.grownBy w' (some X.g)/\match r with
 | .ok (p,σ)=>MA X C σ w'/\ ∃da dc,e=.returned (.agg #[.int i64 p.1,.slice da p.2.length dc])/\Sl w' da dc p.2/\ ∀b o,da=some ⟨b,o,none⟩->p.2≠ []->X.P b
 | .error o=>e=jT o.kind/\iU X o w'
structure FI (X:MX) (fb lb:Nat) (l:Lo) (ret:Option Int) (w:World):Prop where
 fr:FR fb lb l ret w
 f:X.hi<=fb
 l:X.hi<=lb
def oQ (X:MX) (C:Cx) (n:Nat) (x:Ex):Prop:= ∀(σ:Ms) (l:Lo) (fb lb:Nat) (w:World) (A:Option Addr) (c:Nat),MA X C σ w->FI X fb lb l none w->2*σ.left<=n->c7 w X.P (.slice A x.args.length c) x.args->
 Calls prog 164 #[X.p,.pointer (some ⟨fb,0,none⟩),.agg #[.int i64 x.k,.string (J x.op),.string (J x.nm),.string (J x.tx),.int i64 x.v,.slice A x.args.length c]] w (wg X C w (ev C n σ l x))
def H6 (X:MX) (C:Cx) (n:Nat) (x:St):Prop:= ∀(σ:Ms) (l:Lo) (fb lb:Nat) (w:World) (A1 A2 A3:Option Addr) (c1 c2 c3:Nat),MA X C σ w->FI X fb lb l none w->2*σ.left<=n->
 c7 w X.P (.slice A1 x.ex.length c1) x.ex->db w X.P (.slice A2 x.body.length c2) x.body->db w X.P (.slice A3 x.els.length c3) x.els->
 Calls prog 130 #[X.p,.pointer (some ⟨fb,0,none⟩),.agg #[.int i64 x.k,.string (J x.nm),.slice A1 x.ex.length c1,.slice A2 x.body.length c2,.slice A3 x.els.length c3]] w (B5 X C fb lb w (st C n σ l x))
def Ea (X:MX) (C:Cx) (n:Nat) (xs:List St):Prop:= ∀(σ:Ms) (l:Lo) (fb lb:Nat) (w:World) (A:Option Addr) (c:Nat),MA X C σ w->FI X fb lb l none w->2*σ.left<=n->db w X.P (.slice A xs.length c) xs->
 Calls prog 86 #[X.p,.pointer (some ⟨fb,0,none⟩),.slice A xs.length c] w (B5 X C fb lb w (nO (λs l y=>st C n s l y) σ l xs))
def GS (X:MX) (C:Cx) (n:Nat):Prop:= ∀x:Ex,Cb C.fn x=true->x.wt<=1073741824->oQ X C n x
def Im (X:MX) (C:Cx) (n:Nat):Prop:= ∀x:St,EO C.fn x=true->x.wt<=1073741824->H6 X C n x
def H7 (X:MX) (C:Cx) (n:Nat):Prop:= ∀xs:List St,pG C.fn xs=true->fP xs<=1073741824->Ea X C n xs
structure FN (C:Cx):Prop where
 safe: ∀s,pG C.fn (C.fn s).body=true
 wt: ∀s,fP (C.fn s).body<=6000000
 ps: ∀s,(C.fn s).ps.length<=6000000
 pn: ∀s,∀q∈(C.fn s).ps,q.length<=1073741824
section
variable {X:MX} {C:Cx} {σ σ':Ms} {w w':World} {fb lb:Nat} {l:Lo} {ret:Option Int}
theorem MX.S_lt {k:Nat} (a:X.hi<=k): ¬X.S k:=λe=>by simp only[MX.S]at e;omega
theorem MX.S_P {k:Nat} (a:X.P k): ¬X.S k:=λe=>by simp only[MX.S,MX.P]at*;omega
theorem FI.mv {S:Nat->Prop} (a:FI X fb lb l ret w) (j:Mv S w w') (h: ∀k,X.hi<=k->k<w.heap.size-> ¬S k):FI X fb lb l ret w':=⟨a.fr.mv j (h _ a.f a.fr.blk.lt) (h _ a.l a.fr.m.lt),a.f,a.l⟩
theorem FI.ms (j:FI X fb lb l ret w) (h:Mv X.S w w'):FI X fb lb l ret w':=j.mv h λk a _=>MX.S_lt a
theorem FI.ext (a:FI X fb lb l ret w) (h:az w w'):FI X fb lb l ret w':=⟨a.fr.ext h,a.f,a.l⟩
theorem c7.ms {v:Value} {xs:List Ex} (o:c7 w X.P v xs) (j:Mv X.S w w'):c7 w' X.P v xs:=o.keep (j.keepP λk a _=>MX.S_P a) λb h _=>h
theorem c7.xt {v:Value} {xs:List Ex} {P:Nat->Prop} (j:c7 w P v xs) (h:az w w'):c7 w' P v xs:=j.keep (.of_ext h) λb a _=>a
theorem db.xt {v:Value} {xs:List St} {P:Nat->Prop} (j:db w P v xs) (h:az w w'):db w' P v xs:=j.keep (.of_ext h) λb a _=>a
theorem MX.T_P (j:X.hi<=fb) (h:X.hi<=lb) (a:X.Ok) {k:Nat} (o:X.P k): ¬X.T fb lb k:=λe=>by
 have:=a.g;simp only[MX.T,MX.S,MX.P]at*;omega
theorem c7.mt {v:Value} {xs:List Ex} (A:c7 w X.P v xs) (a:FI X fb lb l ret w) (h:X.Ok) (z:Mv (X.T fb lb) w w'):c7 w' X.P v xs:=A.keep (z.keepP λk j _=>MX.T_P a.f a.l h j) λb o _=>o
theorem db.mt {v:Value} {xs:List St} (A:db w X.P v xs) (a:FI X fb lb l ret w) (h:X.Ok) (z:Mv (X.T fb lb) w w'):db w' X.P v xs:=A.keep (z.keepP λk j _=>MX.T_P a.f a.l h j) λb o _=>o
theorem Mv.ms_g (a:X.Ok) (h:w.grownBy w' (some X.g)):Mv X.S w w':=.of_grown h λk e=>by injection e with e;subst e;exact a.g
theorem MA.putA {nm:List UInt8} {z:List UInt8} (h:MA X C σ w) (G:σ.arrs nm≠ []) (K:z.length=(σ.arrs nm).length) (o:w.grownBy w' (some (X.rb nm))) (A:aU w' (X.rb nm) 5 (Cf z)):MA X C (σ.setA nm z) w':=by
 have ao:=h.ok;obtain⟨O,ah,ab,ag⟩:=h.row nm G;obtain⟨lf,ak,aj,ai,au⟩:=h.blk;obtain⟨aC,ae,av⟩:=h.f;obtain⟨aB,ac,ap⟩:=h.i;obtain⟨aA,af,az⟩:=h.a;have ar:z≠ []:=λe=>G (ax (by rw[<-K,e];rfl));have M: ∀s,(σ.setA nm z).arrs s=if s=nm then z else σ.arrs s:=λ_=>rfl;have I:cR X.P w w':=.of_grown o (λb A e=>by injection e with e;subst e;simp only[MX.S,MX.P]at*;omega);refine⟨ao,⟨lf,ak,aj,ai,au.grown o (od (gp ab))⟩,⟨aC,ae.grown o (od λe=>ic O (e▸ae)),av⟩,λs=> ?_,⟨aB,ac.grown o (od λe=>ic O (e▸ac)),ap⟩,⟨aA,af.grown o (od λe=>ic O (e▸af)),λs=> ?_⟩,λs j=> ?_,λs t j aq=> ?_,h.r.keep I,h.used,h.stk,h.rng,h.t.grown o (λe=> ?_),h.t0,aR h.top o.size,λs=> ?_⟩
 ·obtain⟨al,ay,e,V,R⟩:=h.fr s;exact⟨al,ay,e,V.keep I (λb A _=>A),R.keep I (λb A _=>A)⟩
 ·rw[az s];unfold qj;rw[M];by_cases e:s=nm
  ·subst e;rw[if_pos rfl,if_neg G,if_neg ar,K]
  ·rw[if_neg e]
 ·rw[M]at j⊢;by_cases e:s=nm
  ·subst e;rw[if_pos rfl];exact⟨A,ah,ab,K▸ag⟩
  ·rw[if_neg e]at j⊢;obtain⟨V,R,an,J⟩:=h.row s j;exact⟨V.grown o (od λaw=>e (h.inj s nm j G aw)),R,an,J⟩
 ·have ad: ∀s,(σ.setA nm z).arrs s≠ []->σ.arrs s≠ []:=λs j=>by
   rw[M]at j;by_cases e:s=nm
   ·subst e;exact G
   ·rwa [if_neg e]at j
  exact h.inj s t (ad s j) (ad t aq)
 ·have q:=h.t0;rw[<-e]at q;simp only[MX.S,MX.P]at*;omega
 ·rw[M];by_cases e:s=nm
  ·subst e;rw[if_pos rfl,K];exact h.len s
  ·rw[if_neg e];exact h.len s
theorem MA.setA1 {nm:List UInt8} {i:Nat} {b:UInt8} (j:MA X C σ w) (h:i<(σ.arrs nm).length):MA X C (σ.setA nm ((σ.arrs nm).set i b)) (w.setCell ⟨X.rb nm,i,none⟩ (.int .u8 (b.toNat:Int))):=by
 have a:σ.arrs nm≠ []:=λe=>by rw[e]at h;simp at h
 refine j.putA a Qd (cH w _ i _) ?_;have e:Cf ((σ.arrs nm).set i b)=(Cf (σ.arrs nm)).setIfInBounds i (.int .u8 (b.toNat:Int)):=by
  apply kI;simp[Cf,me,Ca,List.map_set]
 rw[e];exact(j.row nm a).1.set i _
def sO (X:MX) (nm:List UInt8):Value:=if X.al nm=0 then .slice none 0 0 else .slice (some ⟨X.rb nm,0,none⟩) (X.al nm) (X.al nm)
theorem MA.arrE (h:MA X C σ w) (nm:List UInt8):qj X σ nm=sO X nm:=by
 have a:=h.len nm;unfold qj sO;by_cases e:σ.arrs nm=[]
 ·rw[if_pos e,if_pos (by rw[<-a,e];rfl)]
 ·rw[if_neg e,if_neg (λj=>e (ax Qa)),a]
def Ib (X:MX) (w:World) (d:Dt) (v:Value):Prop:=match d with
 | .no=>v=.slice none 0 0
 | .txt t=> ∃A c,v=.slice A t.length c/\Sl w A c t/\ ∀b o,A=some ⟨b,o,none⟩->t≠ []->X.hi<=b
 | .arr nm=>v=sO X nm
theorem EN {g:Nat} {h:List UInt8} {t:TypeId} (a:aU w g t (Cf h)) (o:h.length<=1073741824):Sl w (some ⟨g,0,none⟩) h.length h:=
 ⟨ak _,by unfold maxLen;omega,(λa=>by cases a),.inr ⟨g,0,rfl,a.lt,λi j=>by rw[aG,a.cell];simp[Cf,me,Ca,j]⟩⟩
theorem Ib.sl {d:Dt} {v:Value} (z:MA X C σ w) (a:Ib X w d v): ∃h c,v=.slice h (d.rd σ).length c/\Sl w h c (d.rd σ)/\ ∀b j,h=some ⟨b,j,none⟩->d.rd σ≠ []->b≠X.g:=by
 cases d with
 |no=>exact⟨none,0,a,kC w,λb j e=>by cases e⟩
 |txt t=>
  obtain⟨h,c,I,V,R⟩:=a;exact⟨h,c,I,V,λb j e O=>by have:=R b j e O;have:=z.ok.g;simp only[MX.S]at*;omega⟩
 |arr nm=>
  have A:=z.len nm;have a:v=sO X nm:=a;unfold sO at a;show ∃h c,v=.slice h (σ.arrs nm).length c/\Sl w h c (σ.arrs nm)/\ ∀b j,h=some ⟨b,j,none⟩->σ.arrs nm≠ []->b≠X.g;by_cases e:σ.arrs nm=[]
  ·rw[if_pos (by rw[<-A,e];rfl)]at a;rw[e];exact⟨none,0,a,kC w,λb j e=>by cases e⟩
  ·rw[if_neg (λo=>e (ax Qa)),<-A]at a;obtain⟨M,_,K,G⟩:=z.row nm e;exact⟨_,_,a,EN M G,λb j o _=>by injection o with o;injection o with o;exact o▸K⟩
theorem MA.used1 (a:MA X C σ w) {lf:Int} (z:aU w X.g 127 (eo X lf σ)) (o:lf.toNat=σ.left) (j: -9223372036854775808<=lf) (h:lf<=9223372036854775807) (A:σ.used<C.R.length):MA X C {σ with used:=σ.used+1} (w.setCell ⟨X.g,12,none⟩ (.int i64 ((σ.used:Int)+1))):=by
 refine a.reg (cH w X.g 12 _) lf o j h ?_ rfl rfl (by show σ.used+1<=_;omega) a.stk;have e:(eo X lf σ).setIfInBounds 12 (.int i64 ((σ.used:Int)+1))=eo X lf {σ with used:=σ.used+1}:=rfl;rw[<-e];exact z.set 12 _
theorem MA.stk1 (a:MA X C σ w) {lf:Int} (A:aU w X.g 127 (eo X lf σ)) (o:lf.toNat=σ.left) (j: -9223372036854775808<=lf) (h:lf<=9223372036854775807) (k:Nat) (z:k<=1024):MA X C {σ with stk:=k} (w.setCell ⟨X.g,5,none⟩ (.int i64 (k:Int))):=by
 refine a.reg (cH w X.g 5 _) lf o j h ?_ rfl rfl a.used z;have e:(eo X lf σ).setIfInBounds 5 (.int i64 (k:Int))=eo X lf {σ with stk:=k}:=rfl;rw[<-e];exact A.set 5 _
theorem MA.mcl (a:MA X C σ w): ∃lf:Int,lf.toNat=σ.left/\ -9223372036854775808<=lf/\lf<=9223372036854775807/\aU w X.g 127 (eo X lf σ):=a.blk
theorem FR.new (w:World):FR (w.heap.size+1) w.heap.size (λ_=>none) none ((w.alloc (.map #[] 0)).alloc (.cells (i7 w.heap.size none) 182)):=by
 have a:=Z (w.alloc (.map #[] 0)) (.cells (i7 w.heap.size none) 182);have b:=aw (w.alloc (.map #[] 0)) 182 (i7 w.heap.size none);rw[World.size_alloc]at b;exact⟨b,((iw w).ext a).congr λs=>rfl,Et⟩
end
theorem kv (r:ER Int):(∃v s,r=.ok (v,s))\/ ∃a,r=.error a:=by
 rcases r with a|⟨v,s⟩
 ·exact .inr ⟨a,rfl⟩
 ·exact .inl ⟨v,s,rfl⟩
theorem v_ {E:Ms->Ex->ER Int} {ls:List UInt8} {h:List Ex} {vs:List Int} {la:Int} {d:Dt} {s:Ms} {a:Nat} (o:a<ls.length) (j:a<h.length):eO E (ls.drop a) (h.drop a) vs la d s=
  if ls[a]=105 then(E s h[a]).then λv s=>eO E (ls.drop (a+1)) (h.drop (a+1)) (vs++[v]) v d s else if h[a].k=2 then eO E (ls.drop (a+1)) (h.drop (a+1)) vs la (.txt h[a].tx) s else eO E (ls.drop (a+1)) (h.drop (a+1)) vs la (.arr h[a].nm) s:=by
 rw[aD o,aD j,eO]
theorem yZ {E:Ms->Ex->ER Int} {ls:List UInt8} {h:List Ex} {vs:List Int} {la:Int} {d:Dt} {s:Ms} {a:Nat} (j:ls.length<=a):eO E (ls.drop a) (h.drop a) vs la d s=.ok ((vs,la,d),s):=by
 rw[aL j,eO];intro _ _ _ _ e
 cases e
theorem zZ {fn:List UInt8->Fc}: ∀(ls:List UInt8) (o:List Ex),EP fn ls o=true-> ∀j (a:j<o.length) (h:j<ls.length),ls[j]=105->Cb fn o[j]=true
 |ls,[],_,j,a,_,_=>by simp at a
 | [],y::r,_,j,_,h,_=>by simp at h
 |c::ls,y::r,hs,0,_,_,hc=>by
  rw[EP,ag,bJ]at hs;rcases hs.1 with a|a
  ·simp at hc;simp[hc]at a
  ·exact a
 |c::ls,y::r,hs,j+1,a,h,hc=>by
  rw[EP,ag]at hs;exact zZ ls r hs.2 j (by simpa using a) (by simpa using h) (by simpa using hc)
theorem sa {fn:List UInt8->Fc} {h:List Ex} (a:zd fn h=true): ∀y∈h,Cb fn y=true:=by rw[wM]at a;exact λy j=>List.all_eq_true.1 a y j
theorem CE {fn:List UInt8->Fc} {h:List St} (a:pG fn h=true): ∀y∈h,EO fn y=true:=by rw[tw]at a;exact λy j=>List.all_eq_true.1 a y j
theorem Bq {E:Ms->Ex->ER Int} {vs:List Int} {s:Ms} {a:List Ex} {h:Nat} (j:h<a.length):xo E vs s (a.drop h)=(E s a[h]).then λv s=>xo E (vs++[v]) s (a.drop (h+1)):=by
 rw[aD j,xo]
theorem zV {S:Ms->Lo->St->m7} {s:Ms} {l:Lo} {a:List St} {h:Nat} (j:h<a.length):nO S s l (a.drop h)=(S s l a[h]).then λp s=>match p.1 with
  |some v=> .ok ((some v,p.2),s)
  |none=>nO S s p.2 (a.drop (h+1)):=by
 rw[aD j,nO];rfl
theorem AS {l:Lo} {ps:List (List UInt8)} {vs:List Int} {a:Nat} (j:a<ps.length) (h:a<vs.length):uz l (ps.drop a) (vs.drop a)=uz (l.upd ps[a] vs[a]) (ps.drop (a+1)) (vs.drop (a+1)):=by
 rw[aD j,aD h,uz]
theorem DC {l:Lo} {ps:List (List UInt8)} {vs:List Int} {a:Nat} (h:ps.length<=a):uz l (ps.drop a) (vs.drop a)=l:=by
 rw[aL h];unfold uz;rfl
def aC (vs:List Int):Array Value:= #[.int i64 (vs.getD 0 0),.int i64 (vs.getD 1 0),.int i64 (vs.getD 2 0)]
theorem D_: ∀(vs:List Int) (v:Int),vs.length<3->(aC vs).setIfInBounds vs.length (.int i64 v)=aC (vs++[v])
 | [],v,_=>rfl
 | [a],v,_=>rfl
 | [a,b],v,_=>rfl
 | _::_::_::_,v,h=>by simp at h;omega
def rm (vs:List Int):List Value:=vs.map (.int .i32)
def lG (w:World) (base:Nat) (v:Value) (vs:List Int):Prop:=w.ownsRow base 21 1 v vs.length (rm vs)
theorem Hs:ox prog 179 21 1 4 (.int .i32 0):=⟨underlying179,by kernel_rfl,by rfl,by decide⟩
def B6 (w:World) (P:Nat->Prop) (v:Value) (vs:List Int):Prop:=
 ∃A c,v=.slice A vs.length c/\(vs=[]\/vs.length<=c/\c<=maxLen/\ ∃b o,A=some ⟨b,o,none⟩/\P b/\b<w.heap.size/\ ∀i,(h:i<vs.length)->w.cell? ⟨b,o+i,none⟩=some (.int .i32 vs[i]))
section
variable {w w':World} {base:Nat} {v:Value} {vs:List Int}
theorem B6.nil_ (w:World) (P:Nat->Prop):B6 w P (.slice none 0 0) []:=⟨none,0,rfl,.inl rfl⟩
theorem B6.keep {P Q:Nat->Prop} (h:B6 w P v vs) (j:cR P w w') (K: ∀b,P b->b<w.heap.size->Q b):B6 w' Q v vs:=by
 obtain⟨R,c,rfl,h⟩:=h;exact⟨R,c,rfl,h.imp id fun⟨O,M,b,z,ha,o,a,G⟩=>⟨O,M,b,z,ha,K b o a,aF a j.size,λi A=>(j.cell _ o a).trans (G i A)⟩⟩
theorem lG.nil_ (w:World) (base:Nat):lG w base (.slice none 0 0) []:=World.ownsRow_nil w base 21 1
theorem lG.rd (o:lG w base v vs):B6 w (λb=>base<=b) v vs:=by
 rcases o.2 with⟨rfl,j⟩|⟨g,cap,cur,rfl,hb,hg,hnc,hcm,hcs,ht⟩
 ·have:vs=[]:=ax j;subst this;exact .nil_ _ _
 ·refine⟨_,cap,rfl,.inr ⟨hnc,hcm,g,0,rfl,hb,(Array.getElem?_eq_some_iff.1 hg).1,λi h=> ?_⟩⟩;rw[aG,cell_of_row w g i cur 21 (0,0) hg];have a:(rm vs)[i]? =some (.int .i32 vs[i]):=by simp[rm,h]
  rw[<-ht,bL]at a;rw[if_pos Qa]at a;simpa using a
theorem lG.mv {S:Nat->Prop} (z:lG w base v vs) (j:Mv S w w') (h: ∀k,base<=k->k<w.heap.size-> ¬S k):lG w' base v vs:=gH z λb o a _=>j.block b a (h b o a)
theorem lG.ext (j:lG w base v vs) (a:az w w'):lG w' base v vs:=gH j λb o h _=>a.obj h
theorem lG.snoc {h n a:Nat} {x:Int} (o:vs.length=n) (j:w'.ownsRow base 21 1 (.slice (some ⟨h,0,none⟩) (n+1) a) (n+1) (rm vs++[.int .i32 x])):lG w' base (.slice (some ⟨h,0,none⟩) (n+1) a) (vs++[x]):=by
 subst o;unfold lG rm;rw[ac,d9];exact j
end
section
variable {P:Program} {ops:Array Oper} {Q:Exit->Act->World->Prop}
theorem eU (S:Nat->Prop) {id:Nat} {a:Act} {j:World} (m f:Nat) (l:List xC) (x:Nat) (G:P.follows .mixedOrders=true) (A:E_ ops m a.tmps.size=true)
  (z:jN az l) (w:mL x (Mv S) l)
  (h:eL P Q ops f (eW l) (some x) (λ_=>false) az (Mv S) j.drew (λa o=> ∀w',Mv S j w'->(∀p∈o,p.2 w')->wpList P ops Q (ops.toList.drop m) a w') (ops.toList.take m) 0 a []):(Code.region id ops true).wp P Q a j:=by
 refine fC m f (eW l) (some x) az (Mv S) G A aS (λ_ _ _=>Mv.trans) (λ_ _ h=> .of_ext h) (λ_ _ _=>oB) z.out w.out ?_;exact eL.fin (λa o h w' M K=>h w' M.un K) _ _ _ _ h
end
theorem fh {a:MX} {C:Cx} {j w':World} {r:ER Int} {v:Int} {h:Ms} (o:Mv a.S j w') (z:r=.ok (v,h)) (w:MA a C h w'):wg a C j r (.returned (.int .i32 v)) w':=by
 subst z;exact⟨o,rfl,w⟩
theorem dK {h:MX} {C:Cx} {j w':World} {r:ER Int} {a:Oc} {k:Int} (w:Mv h.S j w') (A:r=.error a) (o:a.kind=k) (z:iU h a w'):wg h C j r (.panicked [{v:=.iface 129 (.agg #[.int i64 k]),recovered:=false}]) w':=by
 subst A;subst o;exact⟨w,rfl,z⟩
theorem wg.ok_ {a:MX} {C:Cx} {j w':World} {e:Ending} {v:Int} {h:Ms} (o:wg a C j (.ok (v,h)) e w'):Mv a.S j w'/\e=.returned (.int .i32 v)/\MA a C h w':=o
theorem wg.err_ {h:MX} {C:Cx} {j w':World} {e:Ending} {a:Oc} (o:wg h C j (.error a) e w'):Mv h.S j w'/\e=.panicked [{v:=.iface 129 (.agg #[.int i64 a.kind]),recovered:=false}]/\iU h a w':=o
theorem iY {j:MX} {C:Cx} {h a:Nat} {w w':World} {r:m7} {z:Option Int} {l:Lo} {o:Ms} (A:Mv (j.T h a) w w') (M:r=.ok ((z,l),o)) (K:MA j C o w') (G:FR h a l z w'):B5 j C h a w r (.returned (.tuple #[])) w':=by
 subst M;exact⟨A,rfl,K,G⟩
theorem dB {h:MX} {C:Cx} {w o:Nat} {j w':World} {r:m7} {a:Oc} {k:Int} (A:Mv (h.T w o) j w') (K:r=.error a) (z:a.kind=k) (G:iU h a w'):B5 h C w o j r (.panicked [{v:=.iface 129 (.agg #[.int i64 k]),recovered:=false}]) w':=by
 subst K;subst z;exact⟨A,rfl,G⟩
theorem B5.ok_ {j:MX} {C:Cx} {h a:Nat} {w w':World} {e:Ending} {p:Option Int×Lo} {o:Ms} (z:B5 j C h a w (.ok (p,o)) e w'):Mv (j.T h a) w w'/\e=.returned (.tuple #[])/\MA j C o w'/\FR h a p.2 p.1 w':=z
theorem B5.err_ {h:MX} {C:Cx} {w o:Nat} {j w':World} {e:Ending} {a:Oc} (z:B5 h C w o j (.error a) e w'):Mv (h.T w o) j w'/\e=.panicked [{v:=.iface 129 (.agg #[.int i64 a.kind]),recovered:=false}]/\iU h a w':=z
theorem w_ {a:MX} {C:Cx} {h:Ms} {j:World} (o:MA a C h j) (w:h.left=0):Calls prog 162 #[a.p] j λe w'=>e=.panicked [{v:=.iface 129 (.agg #[.int i64 3]),recovered:=false}]/\Mv a.S j w'/\iU a h.long w':=
 (qX a C h j o).mono λe w' q=>by
  obtain⟨z,q⟩:=q;rw[if_pos w]at q;exact⟨q.1,.ms_g o.ok z,q.2⟩
theorem fY {a:MX} {C:Cx} {h:Ms} {j:World} (o:MA a C h j) (w:h.left≠0):Calls prog 162 #[a.p] j λe w'=>e=.returned (.tuple #[])/\Mv a.S j w'/\MA a C h.step w':=
 (qX a C h j o).mono λe w' q=>by
  obtain⟨z,q⟩:=q;rw[if_neg w]at q;exact⟨q.1,.ms_g o.ok z,q.2⟩
structure EQ (X:MX) (C:Cx) (σ:Ms) (l:Lo) (fb lb:Nat) (w:World) (pb:Nat) (cs:Array Value) (v:Value) (xs:List Ex) (W:World):Prop where
 mv:Mv X.S w W
 ma:MA X C σ W
 fi:FI X fb lb l none W
 bk:aU W pb 70 cs
 re:c7 W X.P v xs
 hp:X.hi<=pb
 hw:X.hi<=w.heap.size
section
variable {X:MX} {C:Cx} {σ σ':Ms} {l:Lo} {fb lb pb:Nat} {w W W':World} {cs:Array Value} {v:Value} {xs:List Ex}
theorem kd (a:MA X C σ w) (j:FI X fb lb l none w) (h:c7 w X.P v xs) (cs:Array Value):EQ X C σ l fb lb w w.heap.size cs v xs (w.alloc (.cells cs 70)):=
 ⟨.of_ext (Z w _),a.ext (Z w _),j.ext (Z w _),aw w _ _,h.xt (Z w _),a.top,a.top⟩
theorem EQ.nx (a:EQ X C σ l fb lb w pb cs v xs W) (h:Mv X.S W W') (j:MA X C σ' W'):EQ X C σ' l fb lb w pb cs v xs W':=
 ⟨a.mv.trans h,j,a.fi.ms h,h.blk a.bk (MX.S_lt a.hp),a.re.ms h,a.hp,a.hw⟩
theorem EQ.ext (h:EQ X C σ l fb lb w pb cs v xs W) (a:az W W'):EQ X C σ l fb lb w pb cs v xs W':=h.nx (.of_ext a) (h.ma.ext a)
end
structure YC (w:World) (b o:Nat) (k:Int) (op nm tx:List UInt8) (v:Int) (B:Option Addr) (n d:Nat):Prop where
 c0:w.cell? ⟨b,o,none⟩=some (.int i64 k)
 c1:w.cell? ⟨b,o+1,none⟩=some (.string (J op))
 c2:w.cell? ⟨b,o+2,none⟩=some (.string (J nm))
 c3:w.cell? ⟨b,o+3,none⟩=some (.string (J tx))
 c4:w.cell? ⟨b,o+4,none⟩=some (.int i64 v)
 c5:w.cell? ⟨b,o+5,none⟩=some (.slice B n d)
theorem YC.kp {w w':World} {P:Nat->Prop} {b z:Nat} {k:Int} {op nm tx:List UInt8} {v:Int} {B:Option Addr} {n d:Nat} (o:YC w b z k op nm tx v B n d) (a:cR P w w') (j:P b) (h:b<w.heap.size):YC w' b z k op nm tx v B n d:=
 ⟨(a.cell _ j h).trans o.c0,(a.cell _ j h).trans o.c1,(a.cell _ j h).trans o.c2,(a.cell _ j h).trans o.c3,(a.cell _ j h).trans o.c4,(a.cell _ j h).trans o.c5⟩
theorem YC.ms {j:MX} {a w':World} {b h:Nat} {k:Int} {op nm tx:List UInt8} {v:Int} {B:Option Addr} {n d:Nat} (G:YC a b h k op nm tx v B n d) (A:Mv j.S a w') (z:j.P b) (w:b<a.heap.size):YC w' b h k op nm tx v B n d:=
 G.kp (A.keepP λk o _=>MX.S_P o) z w
theorem c7.yc {a:World} {P:Nat->Prop} {o:Option Addr} {n c:Nat} {xs:List Ex} (X:c7 a P (.slice o n c) xs) (i:Nat) (w:i<xs.length):
  ∃b h B d,o=some ⟨b,h,none⟩/\b<a.heap.size/\P b/\YC a b (h+i*6) xs[i].k xs[i].op xs[i].nm xs[i].tx xs[i].v B xs[i].args.length d/\c7 a P (.slice B xs[i].args.length d) xs[i].args:=by
 obtain⟨b,h,I,rfl,z,A,V,R,O,M,K,G,j⟩:=X.at_ i w;obtain⟨B,d,rfl,_⟩:=j.form;exact⟨b,h,B,d,rfl,z,A,⟨V,R,O,M,K,G⟩,j⟩
def wj (X:MX) (C:Cx) (n:Nat) (x:Ex):Prop:= ∀(σ:Ms) (l:Lo) (fb lb:Nat) (w:World) (A:Option Addr) (c:Nat),MA X C σ w->FI X fb lb l none w->σ.left≠0->2*σ.left<=n+1->c7 w X.P (.slice A x.args.length c) x.args->
 Calls prog 164 #[X.p,.pointer (some ⟨fb,0,none⟩),.agg #[.int i64 x.k,.string (J x.op),.string (J x.nm),.string (J x.tx),.int i64 x.v,.slice A x.args.length c]] w (wg X C w (ev C (n+1) σ l x))
theorem xe (o:MX) (C:Cx) (n:Nat) (x:Ex) (a:Ms) (l:Lo) (X ab:Nat) (j:World) (z:Option Addr) (c:Nat) (V:MA o C a j) (R:FI o X ab l none j) (A:a.left=0) (w:c7 j o.P (.slice z x.args.length c) x.args):
  Calls prog 164 #[o.p,.pointer (some ⟨X,0,none⟩),.agg #[.int i64 x.k,.string (J x.op),.string (J x.nm),.string (J x.tx),.int i64 x.v,.slice z x.args.length c]] j (wg o C j (ev C n a l x)):=by
 have af:=O (show ev C n a l x=.error a.long by cases n with|zero=>rw[ev]|succ n=>rw[ev,if_pos A]);obtain⟨k,op,nm,tx,v,xs⟩:=x;simp only[Ex.k,Ex.op,Ex.nm,Ex.tx,Ex.v,Ex.args]at w⊢;obtain⟨N,G⟩: ∃N,xs.length=N:=⟨_,rfl⟩
 rw[G]at w⊢;have I:=O (kd V R w #[.int i64 k,.string (J op),.string (J nm),.string (J tx),.int i64 v,.slice z N c]);have ac:=O (w_ I.out.ma A);clear V R w G;simp only[MX.p]at*;go_enter func164,ntmps164;go_wp2_with (go_at_call 162;refine ac.out.mono ?_;rintro e ag ⟨rfl,K,M⟩;have ad:=O (I.out.mv.trans K);have ae:=O M;clear K M);exact⟨rfl,dK ad.out af.out rfl ae.out⟩
theorem Dw (ab:MX) (C:Cx) (n:Nat) (op nm tx:List UInt8) (v:Int) (xs:List Ex):wj ab C n (.mk 1 op nm tx v xs):=by
 intro z l ak ag af ad c X R G aj j;simp only[Ex.k,Ex.op,Ex.nm,Ex.tx,Ex.v,Ex.args]at j⊢;have ai:2*z.step.left<=n:=by show 2*(z.left-1)<=n;omega
 obtain⟨N,K⟩: ∃N,(xs).length=N:=⟨_,rfl⟩
 rw[K]at j⊢;have ah: ∀A:Int,IntKind.i32.wrap A=m9 A:=λ_=>rfl;have w:=O (kd X R j #[.int i64 1,.string (J op),.string (J nm),.string (J tx),.int i64 v,.slice ad N c]);have I:=O (fY w.out.ma G);have ac:=O (Ev (C:=C) (n:=n) (l:=l) (op:=op) (nm:=nm) (tx:=tx) (v:=v) (a:=xs) G);clear X R j K;simp only[MX.p]at*;go_enter func164,ntmps164;go_wp2_with (go_at_call 162;refine I.out.mono ?_;rintro e ae ⟨rfl,M,V⟩;have o:=O (w.out.nx M V);have al:=o.out.bk.cell;clear M V I w);go_ret;exact fh o.out.mv ac.out o.out.ma
theorem Dv (ar:MX) (C:Cx) (n:Nat) (op nm tx:List UInt8) (v:Int) (xs:List Ex) (af:nm.length<=1073741824):wj ar C n (.mk 3 op nm tx v xs):=by
 intro w l aD ay ax av c an al aj aC ab;simp only[Ex.k,Ex.op,Ex.nm,Ex.tx,Ex.v,Ex.args]at ab⊢;have aA:2*w.step.left<=n:=by show 2*(w.left-1)<=n;omega
 obtain⟨N,ak⟩: ∃N,(xs).length=N:=⟨_,rfl⟩
 rw[ak]at ab⊢;have az: ∀X:Int,IntKind.i32.wrap X=m9 X:=λ_=>rfl;have V:=O (kd an al ab #[.int i64 3,.string (J op),.string (J nm),.string (J tx),.int i64 v,.slice av N c]);have ad:=O (fY V.out.ma aj);have ac:=Gx (C:=C) (n:=n) (l:=l) (op:=op) (nm:=nm) (tx:=tx) (v:=v) (a:=xs) aj;clear an al ab ak
 cases hq:l nm with
 |some X=>
  have ag:=O (show ev C (n+1) w l (.mk 3 op nm tx v xs)=.ok (X,w.step) by rw[ac,hq];rfl);clear ac;simp only[MX.p]at*;go_enter func164,ntmps164;go_wp2_with (go_at_call 162;refine ad.out.mono ?_;rintro e I ⟨rfl,M,R⟩;have o:=O (V.out.nx M R);have G:=o.out.bk.cell;clear M R ad V);refine aB 12 1 [] mixed Qb trivial ?_;repeat (refine sx ?_ (λI j=> ?_) ?_;rotate_left;(focus have G:=(o.out.ext j.un).bk.cell;have ao:=(o.out.ext j.un).fi.fr.blk.cell;have A:=(o.out.ext j.un).fi.fr.look af;rw[hq]at A;simp only[bM,c8]at A;clear j;go_simp<;>with_reducible rfl);simp only[a8,a7,a6,aZ,aY])
  intro aq K _;simp only[ae,aQ];have z:=O (o.out.ext K.un);clear K G;go_wp2_with fail;go_ret;exact fh z.out.mv ag.out z.out.ma
 |none=>
  have ag:=O (show ev C (n+1) w l (.mk 3 op nm tx v xs)=.ok (w.ints nm,w.step) by rw[ac,hq];rfl);clear ac;simp only[MX.p]at*;go_enter func164,ntmps164;go_wp2_with (go_at_call 162;refine ad.out.mono ?_;rintro e I ⟨rfl,M,R⟩;have o:=O (V.out.nx M R);have G:=o.out.bk.cell;clear M R ad V);refine aB 12 1 [] mixed Qb trivial ?_;repeat (refine sx ?_ (λI j=> ?_) ?_;rotate_left;(focus have G:=(o.out.ext j.un).bk.cell;have ao:=(o.out.ext j.un).fi.fr.blk.cell;have A:=(o.out.ext j.un).fi.fr.look af;rw[hq]at A;simp only[eC,dq]at A;clear j;go_simp<;>with_reducible rfl);simp only[a8,a7,a6,aZ,aY])
  intro aq K _;simp only[ae,aQ];have z:=O (o.out.ext K.un);clear K G o;obtain⟨lf,_,_,_,ai⟩:=z.out.ma.mcl;have au:=O ai;clear ai;go_wp2_with fail;refine aB 8 1 [] mixed Qb trivial ?_;repeat (refine sx ?_ (λI j=> ?_) ?_;rotate_left;(focus have G:=(z.out.ext j.un).bk.cell;have ao:=(au.out.ext j.un).cell;have A:=(z.out.ext j.un).ma.lookI af;clear j;go_simp<;>with_reducible rfl);simp only[a8,a7,a6,aZ,aY])
  intro aw ah _;simp only[ae,aQ];have ap:=O (z.out.ext ah.un);clear ah;go_wp2_with fail;go_ret;exact fh ap.out.mv ag.out ap.out.ma
theorem Dr (aJ:MX) (C:Cx) (n:Nat) (op nm tx:List UInt8) (v:Int) (y:Ex) (ad:List Ex) (aC:oQ aJ C n y):wj aJ C n (.mk 6 op nm tx v (y::ad)):=by
 intro K l av ap aY aW c aI aG aE a3 X;simp only[Ex.k,Ex.op,Ex.nm,Ex.tx,Ex.v,Ex.args]at X⊢;have aD:2*K.step.left<=n:=by show 2*(K.left-1)<=n;omega
 obtain⟨N,au⟩: ∃N,(y::ad).length=N:=⟨_,rfl⟩
 rw[au]at X⊢;have a2: ∀az:Int,IntKind.i32.wrap az=m9 az:=λ_=>rfl;have G:=O (kd aI aG X #[.int i64 6,.string (J op),.string (J nm),.string (J tx),.int i64 v,.slice aW N c]);have R:=O (fY G.out.ma aE);have w:=Gu (C:=C) (n:=n) (l:=l) (op:=op) (nm:=nm) (tx:=tx) (v:=v) (a:=y::ad) aE;rw[show(y::ad).getD 0 pj=y from rfl]at w;obtain⟨b,a1,B,d,aR,aq,ar,af,ag⟩:=X.yc 0 Qd;subst aR;have a5:0<N:=by rw[<-au];simp
 have a4:(0:Int)<(N:Int):=Qa
 simp only[aK,bp,bE]at af ag;obtain⟨aQ,aO,aP,aN,aM,aS⟩:=y;have ab:=O aC;unfold oQ at ab;simp only[Ex.k,Ex.op,Ex.nm,Ex.tx,Ex.v,Ex.args]at af ag ab;have aw:=O af;have ay:=O ag;clear aI aG X au af ag aC;have ax:True:=trivial;have aT:=O (λc W=>nU c W);rcases kv (ev C n K.step l (Ex.mk aQ aO aP aN aM aS))with⟨i,aZ,M⟩|⟨oc,M⟩
 ·rw[M,gh]at w;have ae:=aD;by_cases h33:op=[33]
  ·subst h33;rw[if_pos rfl]at w;have ac:=O w;clear w;simp only[MX.p]at*;go_enter func164,ntmps164;go_wp2_with (first|(go_at_call 162;refine R.out.mono ?_;rintro e aB ⟨rfl,o,z⟩;have j:=O (G.out.nx o z);have ah:=j.out.bk.cell;obtain⟨ao,an,al,ak,aj,ai⟩:=aw.out.ms j.out.mv ar aq;clear o z R G)|(go_at_call 164;clear ax;refine(ab.out K.step l av ap _ B d j.out.ma j.out.fi (ae) (ay.out.ms j.out.mv)).mono ?_;intro e aA A;rw[M]at A;obtain⟨o,rfl,I⟩:=A.ok_;have V:=O (j.out.nx o I);have ah:=V.out.bk.cell;clear ao an al ak aj ai;clear o I)|(go_at_call 188;refine(aT.out _ _).mono ?_;rintro e aX ⟨rfl,aH⟩;have aL:=O (V.out.ext aH);clear aH));go_ret;exact fh aL.out.mv ac.out aL.out.ma
  ·rw[if_neg h33]at w;have ac:=O w;have a6:=Ql.2 h33;clear w;simp only[MX.p]at*;go_enter func164,ntmps164;go_wp2_with (first|(go_at_call 162;refine R.out.mono ?_;rintro e aB ⟨rfl,o,z⟩;have j:=O (G.out.nx o z);have ah:=j.out.bk.cell;obtain⟨ao,an,al,ak,aj,ai⟩:=aw.out.ms j.out.mv ar aq;clear o z R G)|(go_at_call 164;clear ax;refine(ab.out K.step l av ap _ B d j.out.ma j.out.fi (ae) (ay.out.ms j.out.mv)).mono ?_;intro e aA A;rw[M]at A;obtain⟨o,rfl,I⟩:=A.ok_;have V:=O (j.out.nx o I);have ah:=V.out.bk.cell;clear ao an al ak aj ai;clear o I));go_ret;exact fh V.out.mv ac.out V.out.ma
 ·rw[M,fj]at w;have ae:=aD;have ac:=O w;clear w;simp only[MX.p]at*;go_enter func164,ntmps164;go_wp2_with (first|(go_at_call 162;refine R.out.mono ?_;rintro e aB ⟨rfl,o,z⟩;have j:=O (G.out.nx o z);have ah:=j.out.bk.cell;obtain⟨ao,an,al,ak,aj,ai⟩:=aw.out.ms j.out.mv ar aq;clear o z R G)|(go_at_call 164;clear ax;refine(ab.out K.step l av ap _ B d j.out.ma j.out.fi (ae) (ay.out.ms j.out.mv)).mono ?_;intro e aA A;rw[M]at A;obtain⟨o,rfl,aF⟩:=A.err_;have aU:=O (j.out.mv.trans o);have aV:=O aF;clear o aF));exact⟨rfl,dK aU.out ac.out rfl aV.out⟩
end
section
def rI {α:Type} (k:Nat) (r:ER α):Prop:=match r with
 | .ok (_,s)=>s.stk=k
 | .error _=>True
theorem rI.then {α h:Type} {k a:Nat} {r:ER α} {f:α->Ms->ER h} (w:rI k r) (j: ∀z s,s.stk=k->rI a (f z s)):rI a (r.then f):=by
 cases r with
 |error o=>exact trivial
 |ok p=>exact j _ _ w
theorem r8 {j:Rs} {s:Ms} {c h b d:Int} {l:List UInt8} {k:Nat} (a:s.stk=k):rI k (gZ j s c h b d l):=by
 unfold gZ;split
 ·exact trivial
 ·exact a
theorem nH {E:Ms->Ex->ER Int} {k:Nat} (j: ∀s x,s.stk=k->rI k (E s x)): ∀(ls:List UInt8) (h:List Ex) (vs:List Int) (la:Int) (d:Dt) (s:Ms),s.stk=k->rI k (eO E ls h vs la d s)
 |c::ls,y::h,vs,la,d,s,a=>by
  rw[eO];split
  ·exact(j s y a).then λv s a=>nH j ls h _ _ _ s a
  ·split
   ·exact nH j ls h _ _ _ s a
   ·exact nH j ls h _ _ _ s a
 | [],_,vs,la,d,s,a=>by unfold eO;exact a
 | _::_,[],vs,la,d,s,a=>by unfold eO;exact a
theorem CT {s:Ms} {n:Nat} {r:List UInt8}: ∀d:Dt,(d.put s n r).stk=s.stk
 | .no=>rfl
 | .txt _=>rfl
 | .arr _=>rfl
theorem DZ {o:Rs} {E:Ms->Ex->ER Int} {k:Nat} (j: ∀s x,s.stk=k->rI k (E s x)) (c:Int) (ls:List UInt8) (h:List Ex) (s:Ms) (a:s.stk=k):rI k (qf o E s c ls h):=by
 unfold qf oV;refine(nH j ls h [] 0 .no s a).then λp s a=> ?_;split
 ·exact(r8 a).then λr s a=>a
 ·split
  ·exact trivial
  ·split
   ·exact(r8 a).then λr s a=>a
   ·exact(r8 a).then λr s a=>(CT _).trans a
theorem xm {E:Ms->Ex->ER Int} {k:Nat} (h: ∀s x,s.stk=k->rI k (E s x)): ∀(j:List Ex) (vs:List Int) (s:Ms),s.stk=k->rI k (xo E vs s j)
 | [],vs,s,a=>a
 |y::r,vs,s,a=>(h s y a).then λv s a=>xm h r _ s a
theorem nj {S:Ms->Lo->St->m7} {k:Nat} (h: ∀s l x,s.stk=k->rI k (S s l x)): ∀(j:List St) (l:Lo) (s:Ms),s.stk=k->rI k (nO S s l j)
 | [],l,s,a=>a
 |y::r,l,s,a=>by
  rw[nO];refine(h s l y a).then λp s a=> ?_;split
  ·exact a
  ·exact nj h r _ s a
theorem DY {S:Ms->Lo->St->m7} (j: ∀k s l x,s.stk=k->rI k (S s l x)) (f:Fc) (vs:List Int) (s:Ms) {k:Nat} (a:s.stk=k):rI k (gK S f vs s):=by
 unfold gK;split
 ·exact trivial
 ·refine(nj (k:=s.stk+i6 f) (λs l x a=>j _ s l x a) f.body _ _ rfl).then λp h o=> ?_;show h.stk-i6 f=k;omega
theorem D4 (op:List UInt8) (h b:Int) (s:Ms) {k:Nat} (a:s.stk=k):rI k (kA op h b s):=by
 unfold kA;repeat' split
 all_goals first|exact a|exact trivial
theorem Br (C:Cx): ∀n,(∀k s l x,s.stk=k->rI k (ev C n s l x))/\(∀k s l x,s.stk=k->rI k (st C n s l x))/\(∀k s l c b,s.stk=k->rI k (wh C n s l c b))
 |0=>⟨λk s l x a=>(by rw[ev];exact trivial),λk s l x a=>(by rw[st];exact trivial),λk s l c b a=>(by rw[wh];exact trivial)⟩
 |n+1=>by
  obtain⟨j,o,w⟩:=Br C n;refine⟨λk s l x a=> ?_,λk s l x a=> ?_,λk s l c b a=> ?_⟩
  ·have h:s.step.stk=k:=a;rw[ev];split
   ·exact trivial
   split
   ·exact h
   split
   ·exact h
   split
   ·refine(j k _ l _ h).then λi s a=> ?_;split
    ·exact a
    ·exact trivial
   split
   ·split
    ·exact DZ (λs x a=>j k s l x a) _ _ _ _ h
    ·exact(xm (λs x a=>j k s l x a) _ _ _ h).then λvs s a=>DY (λk s l x a=>o k s l x a) _ _ _ a
   split
   ·refine(j k _ l _ h).then λi s a=> ?_;split<;>exact a
   ·refine(j k _ l _ h).then λi s a=> ?_;split
    ·exact a
    split
    ·exact a
    refine(j k _ l _ a).then λz s a=> ?_;split
    ·exact a
    ·exact D4 _ _ _ _ a
  ·have h:s.step.stk=k:=a;rw[st];split
   ·exact trivial
   split
   ·exact w k _ _ _ _ h
   refine rI.then (k:=k) (by split;exact h;exact j k _ _ _ h) λv s a=> ?_;split
   ·exact a
   split
   ·split
    ·exact a
    ·exact a
   split
   ·refine(j k _ l _ a).then λu s a=> ?_;split
    ·exact a
    ·exact trivial
   split
   ·exact nj (λs l x a=>o k s l x a) _ _ _ a
   split<;>exact a
  ·rw[wh];refine(j k _ l _ a).then λv s a=> ?_;split
   ·exact a
   refine(nj (λs l x a=>o k s l x a) _ _ _ a).then λp s a=> ?_;split
   ·exact a
   ·exact w k _ _ _ _ a
theorem xY {C:Cx} {n:Nat} {s h:Ms} {l:Lo} {xs:List St} {p:Option Int×Lo} (a:nO (λs l y=>st C n s l y) s l xs=.ok (p,h)):h.stk=s.stk:=by
 have:=nj (k:=s.stk) (λs l x a=>(Br C n).2.1 _ s l x a) xs l s rfl;rw[a]at this;exact this
end
section
open Go.RowKit
structure RU (X:MX) (C:Cx) (σ:Ms) (w:World) (cs:Array Value) (pv bv av:Value) (ps:List (List UInt8)) (bd:List St) (vs:List Int) (W:World):Prop where
 mv:Mv X.S w W
 ma:MA X C σ W
 bk:aU W w.heap.size 59 cs
 rp:mQ W X.P pv ps
 rb:db W X.P bv bd
 ra:B6 W (λb=>X.hi<=b/\b<w.heap.size) av vs
 hw:X.hi<=w.heap.size
section
variable {X:MX} {C:Cx} {σ σ':Ms} {w W W':World} {cs:Array Value} {pv bv av:Value} {ps:List (List UInt8)} {bd:List St} {vs:List Int} {fb lb:Nat} {l:Lo} {ret:Option Int}
theorem RU.go {S:Nat->Prop} (h:RU X C σ w cs pv bv av ps bd vs W) (z:Mv S W W') (A: ∀k,k<w.heap.size+1->S k->X.S k) (M:MA X C σ' W'):RU X C σ' w cs pv bv av ps bd vs W':=by
 have G:=h.hw;have R:=h.ma.ok.g;have K: ∀k,X.P k-> ¬S k:=λk a j=>MX.S_P a (A k (by simp only[MX.S,MX.P]at*;omega) j);refine⟨h.mv.tr z λi O j=>A i Qa j,M,z.blk h.bk λe=>MX.S_lt G (A _ Qa e),h.rp.keep (z.keepP λk a _=>K k a) λb o _=>o,h.rb.keep (z.keepP λk a _=>K k a) λb o _=>o,h.ra.keep (z.keepP λk a _ j=>MX.S_lt a.1 (A k Qa j)) λb o _=>o,G⟩
theorem RU.ext (a:RU X C σ w cs pv bv av ps bd vs W) (h:az W W'):RU X C σ w cs pv bv av ps bd vs W':=a.go (S:=λ_=>False) (.of_ext h) (λ_ _ a=>a.elim) (a.ma.ext h)
theorem RU.new (h:MA X C σ w) (A:mQ w X.P pv ps) (z:db w X.P bv bd) (o:B6 w (λb=>X.hi<=b) av vs) (cs:Array Value):RU X C σ w cs pv bv av ps bd vs (w.alloc (.cells cs 59)):=
 ⟨.of_ext (Z w _),h.ext (Z w _),aw w _ _,A.keep (.of_ext (Z w _)) λb a _=>a,z.keep (.of_ext (Z w _)) λb a _=>a,o.keep (.of_ext (Z w _)) λb a j=>⟨a,j⟩,h.top⟩
theorem RU.fr (a:RU X C σ w cs pv bv av ps bd vs W) (h:FR fb lb l ret W) (o:w.heap.size+1<=fb) (j:w.heap.size+1<=lb):FI X fb lb l ret W:=⟨h,by have:=a.hw;omega,by have:=a.hw;omega⟩
theorem MX.T_new {k n:Nat} (o:n+1<=fb) (h:n+1<=lb):k<n+1->X.T fb lb k->X.S k:=λj a=>by
 rcases a with a|a|a
 ·exact a
 ·omega
 ·omega
theorem RU.lo (a:RU X C σ w cs pv bv av ps bd vs W) (o:W.grownBy W' (some lb)) (z:w.heap.size+1<=lb):RU X C σ w cs pv bv av ps bd vs W':=
 have h:Mv (λk=>k=lb) W W':=.of_grown o λk e=>by injection e with e;exact e.symm
 a.go h (λk j e=>by omega) (a.ma.mv h λk j e=>by have:=a.hw;omega)
end
theorem EX {j:World} {P:Nat->Prop} {w:Option Addr} {n c:Nat} {vs:List Int} (a:B6 j P (.slice w n c) vs) (i:Nat) (o:i<vs.length): ∃b h,w=some ⟨b,h,none⟩/\P b/\b<j.heap.size/\j.cell? ⟨b,h+i,none⟩=some (.int .i32 vs[i]):=by
 obtain⟨M,K,e,a⟩:=a;injection e with G A z;subst G A z;rcases a with a|⟨_,_,b,h,rfl,hP,hb,hc⟩
 ·subst a;simp at o
 ·exact⟨b,h,rfl,hP,hb,hc i o⟩
theorem CP {j:World} {P:Nat->Prop} {w:Option Addr} {n c:Nat} {vs:List (List UInt8)} (a:mQ j P (.slice w n c) vs) (i:Nat) (o:i<vs.length): ∃b h,w=some ⟨b,h,none⟩/\P b/\b<j.heap.size/\j.cell? ⟨b,h+i,none⟩=some (.string (J vs[i])):=by
 obtain⟨M,K,e,a⟩:=a;injection e with G A z;subst G A z;rcases a with a|⟨_,_,b,h,rfl,hP,hb,hc⟩
 ·subst a;simp at o
 ·exact⟨b,h,rfl,hP,hb,hc i o⟩
theorem ET {h:MX} {C:Cx} {a:Ms} {w W:World} {G:Array Value} {z K O:Value} {ps:List (List UInt8)} {M:List St} {vs:List Int} (o:RU h C a w G z K O ps M vs W) {lf:Int} (ac:aU W h.g 127 (eo h lf a)) (X:lf.toNat=a.left) (V: -9223372036854775808<=lf) (R:lf<=9223372036854775807) (j:Nat) (ab:a.stk+j<=1024):
  RU h C {a with stk:=a.stk+j} w G z K O ps M vs (((W.setCell ⟨h.g,5,none⟩ (.int i64 ((a.stk:Int)+(j:Int)))).alloc (.map #[] 0)).alloc (.cells #[.map (some W.heap.size),.bool false,.int .i32 0] 182))/\
  FR (W.heap.size+1) W.heap.size (λ_=>none) none (((W.setCell ⟨h.g,5,none⟩ (.int i64 ((a.stk:Int)+(j:Int)))).alloc (.map #[] 0)).alloc (.cells #[.map (some W.heap.size),.bool false,.int .i32 0] 182))/\w.heap.size+1<=W.heap.size:=by
 have ad:MA h C {a with stk:=a.stk+j} (W.setCell ⟨h.g,5,none⟩ (.int i64 ((a.stk:Int)+(j:Int)))):=by
  have:=o.ma.stk1 ac X V R (a.stk+j) ab;rwa [Int.natCast_add]at this
 have ae:=o.go (S:=h.S) (Mv.ms_g o.ma.ok (cH W h.g 5 (.int i64 ((a.stk:Int)+(j:Int))))) (λ_ _ o=>o) ad;have I:(W.setCell ⟨h.g,5,none⟩ (.int i64 ((a.stk:Int)+(j:Int)))).heap.size=W.heap.size:=by simp[World.setCell]
 have A:=FR.new (W.setCell ⟨h.g,5,none⟩ (.int i64 ((a.stk:Int)+(j:Int))));rw[I]at A;exact⟨(ae.ext (Z _ _)).ext (Z _ _),A,o.bk.lt⟩
def FJ (X:MX) (C:Cx) (n:Nat):Prop:= ∀(s:List UInt8) (σ:Ms) (w:World) (A:Option Addr) (c:Nat) (vs:List Int),MA X C σ w->2*σ.left<=n->B6 w (λb=>X.hi<=b) (.slice A vs.length c) vs->nM vs->(C.fn s).ps.length<=vs.length->
 Calls prog 48 #[X.p,X.fv s,.slice A vs.length c] w (wg X C w (gK (λs l y=>st C n s l y) (C.fn s) vs σ))
theorem tR (z:MX) (C:Cx) (n:Nat) (aA:H7 z C n) (aF:FN C):FJ z C n:=by
 intro s a aU cj c vs aQ bQ ba bB a3;obtain⟨co,cF,bz,aC,aO⟩:=aQ.fr s;rw[bz];have aX:=aF.safe s;have bq:=aF.wt s;have a1:=aF.ps s;have a2:=aF.pn s;clear aF bz;generalize C.fn s=f at*;obtain⟨ag,ps,o⟩:=f;simp only at aC aO aX bq a1 a2 a3⊢;obtain⟨aK,aG,bO,bZ⟩:=id aC;obtain⟨X,R,bW,_⟩:=aO.form;subst bO bW;have bV:=lc o;obtain⟨j,aN⟩: ∃q,i6 ⟨ag,ps,o⟩=q:=⟨_,rfl⟩
 have cz:j<=100000000:=by rw[<-aN];unfold i6;simp only;omega
 have an:=O (λW (A:db W z.P (.slice X o.length R) o)=>show Calls prog 24 #[.agg #[.string (J ag),.slice aK ps.length aG,.slice X o.length R]] W λe w'=>e=.returned (.int i64 (j:Int))/\az W w' from aN▸uK ag ps o bq a1 z.P W aK X aG R A);have af:gK (λs l y=>st C n s l y) ⟨ag,ps,o⟩ vs a=if 1024<a.stk+j then .error a.fails else(nO (λs l y=>st C n s l y) {a with stk:=a.stk+j} (iu (uz (λ_=>none) ps vs) o) o).then λp s=> .ok (p.1.getD 0,{s with stk:=s.stk-j}):=by rw[<-aN];rfl
 obtain⟨bD,bA⟩: ∃b4,gK (λs l y=>st C n s l y) ⟨ag,ps,o⟩ vs a=b4:=⟨_,rfl⟩
 rw[bA]at af⊢;have bN:=aQ.stk;have aS:=O (aA o aX Qa);unfold Ea at aS;have ao:=O (m6 _ o (ak _) Qa);unfold GE at ao;obtain⟨ac,I⟩: ∃m,ps.length=m:=⟨_,rfl⟩
 obtain⟨bg,bc⟩: ∃m,vs.length=m:=⟨_,rfl⟩
 rw[I]at an aC a1 a3⊢;rw[bc]at ba a3⊢;have al:=O (RU.new aQ aC aO ba #[.string (J ag),.slice aK ac aG,.slice X o.length R]);have b9:=O a2;have cf:=O bB;have bG:=O I;have ca:=O bc;have cu:IntKind.i64.wrap ((a.stk:Int)+(j:Int))=((a.stk+j:Nat):Int):=Qf
 clear aQ aC bZ aO ba bA aN a2 bB I bc aA bV aX;by_cases hov:1024<a.stk+j
 ·rw[if_pos hov]at af;have aJ:=O af;have bP:(1024:Int)<((a.stk+j:Nat):Int):=Qa
  clear af;simp only[MX.p]at*;go_enter func48,ntmps48;go_wp2_with (go_at_call 24;refine(an.out _ al.out.rb).mono ?_;rintro e ap ⟨rfl,aD⟩;have ah:=O (al.out.ext aD);have bj:=O (ah.out.ma.halt 2);obtain⟨lf,aM,aq,aL,ad⟩:=ah.out.ma.mcl;have bf:=ad.cell;clear aD an al ad aM aq aL);exact⟨rfl,dK ah.out.mv aJ.out rfl bj.out⟩
 rw[if_neg hov]at af;have bP: ¬(1024:Int)<((a.stk+j:Nat):Int):=Qa
 have ai:=O af;clear af;simp only[MX.p]at an aS ao⊢;go_enter func48,ntmps48;have bR:= @run_makeMap prog;go_wp2_with (go_at_call 24;refine(an.out _ al.out.rb).mono ?_;rintro e ap ⟨rfl,aD⟩;have ah:=O (al.out.ext aD);obtain⟨lf,aM,aq,aL,ad⟩:=ah.out.ma.mcl;have aH:=O (ET ah.out ad aM aq aL j Qa);have bf:=ad.cell;have b1:=ad.frozen;have aj:=aH.out.1.bk.cell;clear aD an al ah ad aM aq aL);have b8:=O aH.out.1;have ch:=O aH.out.2.1;have G:=O aH.out.2.2;clear bR aj bf b1 aH;generalize ((ap.setCell ⟨z.g,5,none⟩ (.int i64 ((a.stk:Int)+(j:Int)))).alloc (.map #[] 0)).alloc (.cells #[.map (some ap.heap.size),.bool false,.int .i32 0] 182)=cn at*;generalize ap.heap.size=K at*;obtain⟨bh,bd⟩: ∃L,uz (λ_=>none) ps vs=L:=⟨_,rfl⟩
 have ce:=O (show uz (λ_=>none) (ps.drop 0) (vs.drop 0)=bh from bd);rw[bd]at ai;clear bd
 go_loopw [36] (λaV wr=> ∃(w:Nat) (ab:Lo),aV=.int i64 (w:Int)/\w<=ac/\Hid (uz ab (ps.drop w) (vs.drop w)=bh)/\Hid (RU z C {a with stk:=a.stk+j} aU #[.string (J ag),.slice aK ac aG,.slice X o.length R] (.slice aK ac aG) (.slice X o.length R) (.slice cj bg c) ps o vs wr)/\Hid (FR (K+1) K ab none wr)) (λaV _=>ac-(intOf aV).toNat)
 case atStart=>exact⟨0,_,rfl,aI _,ce,b8,ch⟩
 case round=>
  obtain⟨w,ab,rfl,cy,bH,V,aT⟩:=hrel;by_cases hlt:w<ac
  ·have bS:(w:Int)<ac:=Qa
   have a5:w<ps.length:=by have:=bG.out;omega
   have a4:w<vs.length:=by have:=ca.out;omega
   have cx:w<bg:=Qa
   have cw:(w:Int)<bg:=Qa
   have aA:=AS (l:=ab) a5 a4;obtain⟨b,cq,rfl,cB,bY,b2⟩:=CP V.out.rp w a5;obtain⟨b3,cp,rfl,cA,bX,a0⟩:=EX V.out.ra w a4;have cv:=b9.out _ (ay a5);have bM:=cf.out _ (ay a4);generalize ps[w]=q at*;generalize vs[w]=ck at*;have b7:=O (aA.symm.trans bH.out);clear aA;go_wp2_with fail;refine aB 9 1 [] mixed Qb trivial ?_;repeat (refine sx ?_ (λap bb=> ?_) ?_;rotate_left;(focus have bf:=(aT.out.ext bb.un).blk.cell;have cG:=(bb.un.cell b3 _ bX).trans a0;clear bb;go_simp<;>with_reducible rfl);simp only[a8,a7,a6,aZ,aY])
   intro cm aW _;simp only[ae,au];have bJ:=O (aT.out.ext aW.un);have b6:=O (V.out.ext aW.un);clear aW b2 a0;go_wp2_with (at_mapUpdate;refine cZ Fh rfl _ _ _ rfl bJ.out.m rfl Qg rfl _ rfl ?_;intro cl bu a9;have cg:=O (bJ.out.upd bM bu a9);have b5:=O (b6.out.lo a9 G.out);clear bu a9);go_roundw
   case rel=>exact⟨w+1,_,by go_num,by omega,b7,b5,cg⟩
   case measure=>simp[intOf];omega
  ·have bS: ¬(w:Int)<ac:=Qa
   have b0:ab=bh:=by rw[<-bH.out,DC (by have:=bG.out;omega)]
   subst b0;have bt: ∀b,z.P b->b≠K:=λb bY e=>by have:=G.out;have:=V.out.hw;have:=V.out.ma.ok.g;simp only[MX.S,MX.P]at*;omega
   have bF:=O bt;have ai:=ai;have aj:=V.out.bk.cell;have bv:2*({a with stk:=a.stk+j}:Ms).left<=n:=bQ;have bI:=O bv;clear bt bv;have bE:True:=trivial;rcases ar:nO (λs l y=>st C n s l y) {a with stk:=a.stk+j} (iu ab o) o with bL|⟨⟨rt,aq⟩,s2⟩
   ·have aJ:=O (show bD=.error bL by rw[ai.out,ar];rfl);clear ai;go_wp2_with (first|(go_at_call 85;clear bE;refine(ao.out z.g (K+1) K ab none z.P _ X _ R aT.out V.out.rb bF.out).mono ?_;unfold Ic;rintro e bK ⟨rfl,aw,ax⟩;have M:=O (V.out.lo aw G.out);have bl:=O ax;clear aj;have aj:=M.out.bk.cell;clear aw ax ao)|(go_at_call 86;refine(aS.out _ _ (K+1) K _ X R M.out.ma (M.out.fr bl.out (by have:=G.out;omega) G.out) bI.out M.out.rb).mono ?_;intro e bm A;rw[ar]at A;obtain⟨I,rfl,bC⟩:=A.err_;have cb:=O (M.out.mv.tr I λk bx A=>MX.T_new (n:=aU.heap.size) (by have:=G.out;omega) G.out Qa A);have bj:=O bC;clear I bC A));exact⟨rfl,dK cb.out aJ.out rfl bj.out⟩
   ·have bw:=xY ar;have bT:s2.stk=a.stk+j:=bw;have br:(s2.stk:Int)=(a.stk:Int)+(j:Int):=Qa
    have aJ:=O (show bD=.ok (rt.getD 0,{s2 with stk:=a.stk}) by
     rw[ai.out,ar,gh,bT];show Except.ok (rt.getD 0,({s2 with stk:=a.stk+j-j}:Ms))=_
     rw[Nat.add_sub_cancel])
    have ct:IntKind.i64.wrap ((a.stk:Int)+(j:Int)-(j:Int))=(a.stk:Int):=Qf
    have cs:IntKind.i64.wrap (a.stk:Int)=(a.stk:Int):=Qf
    clear ai bw;go_wp2_with (first|(go_at_call 85;clear bE;refine(ao.out z.g (K+1) K ab none z.P _ X _ R aT.out V.out.rb bF.out).mono ?_;unfold Ic;rintro e bK ⟨rfl,aw,ax⟩;have M:=O (V.out.lo aw G.out);have bl:=O ax;clear aj;have aj:=M.out.bk.cell;clear aw ax ao)|(go_at_call 86;refine(aS.out _ _ (K+1) K _ X R M.out.ma (M.out.fr bl.out (by have:=G.out;omega) G.out) bI.out M.out.rb).mono ?_;intro e bm A;rw[ar]at A;obtain⟨I,rfl,aP,be⟩:=A.ok_;have aR:=O (M.out.go I (λk bx A=>MX.T_new (n:=aU.heap.size) (by have:=G.out;omega) G.out bx A) aP);have cI:=O be;obtain⟨cr,bp,bo,bn,av⟩:=aP.mcl;simp only[eo,br]at av;have cE:=av.cell;have cC:=av.frozen;have cc:=O av;have bi:=O (aE bp (aE bo bn));have bU:K+1≠z.g:=(by have:=G.out;have:=aR.out.hw;have:=aP.ok.g;simp only[MX.S]at*;omega);have cD:=(be.blk.far (p:=⟨z.g,5,none⟩) bU (.int i64 (a.stk:Int))).cell;clear I aP be A av bp bo bn));have ci:=O (aR.out.ma.stk1 (by have:=cc.out;unfold eo;rw[br];exact this) bi.out.1 bi.out.2.1 bi.out.2.2 a.stk bN);have cd:=O (aR.out.mv.trans (Mv.ms_g aR.out.ma.ok (cH bm z.g 5 (.int i64 (a.stk:Int)))));go_ret;exact fh cd.out aJ.out ci.out
end
section
def In (Q:Ms->Prop) {α:Type} (r:ER α):Prop:=match r with
 | .ok (_,s)=>Q s
 | .error _=>True
theorem DO {C:Cx}: ∀(n:Nat) (s:Ms) (l:Lo) (x:Ex),In (λo=>o.left+1<=s.left) (ev C n s l x)
 |0,s,l,x=>by rw[ev];exact trivial
 |n+1,s,l,x=>by
  rw[ev];split
  ·exact trivial
  rename_i M;have w:=jY C.R (s.left-1);have h:s.step.left<=s.left-1:=ak _;have A: ∀{α:Type} {r:ER α},qq (λo=>o.left<=s.left-1) r->In (λo=>o.left+1<=s.left) r:=fun{α r} a=>by
   cases r with
   |error e=>exact trivial
   |ok p=>have a:p.2.left<=s.left-1:=a;show p.2.left+1<=s.left;omega
  obtain⟨j,z,K⟩:=ua w (C:=C) rfl n;apply A;split
  ·exact h
  split
  ·exact h
  split
  ·refine(j _ l _ h).then λi s a=> ?_;split
   ·exact a
   ·exact .err a rfl
  split
  ·split
   ·exact BS w (λs x a=>j s l x a) _ _ _ _ h
   ·exact(vW (λs x a=>j s l x a) _ _ _ h).then λvs s a=>BN w (λs l x a=>z s l x a) _ _ _ a
  split
  ·refine(j _ l _ h).then λi s a=> ?_;split<;>exact a
  ·refine(j _ l _ h).then λi s a=> ?_;split
   ·exact a
   split
   ·exact a
   refine(j _ l _ a).then λG s a=> ?_;split
   ·exact a
   ·exact BV _ _ _ _ a
theorem Gs {C:Cx} {n:Nat} {s a:Ms} {l:Lo} {x:Ex} {v:Int} (h:ev C n s l x=.ok (v,a)):a.left+1<=s.left:=by
 have:=DO (C:=C) n s l x;rw[h]at this;exact this
theorem oq {C:Cx} {n:Nat} {s a:Ms} {l:Lo} {x:Ex} {v:Int} (o:ev C n s l x=.ok (v,a)) (j:lH s) (h:rK l):jH v:=by
 have:=(vX C n).1 s l x j h;rw[o]at this;exact this.1
theorem rW {C:Cx} {n:Nat} {s h:Ms} {l:Lo} {w:List Ex} {v:Int} (a:val C n s l w=.ok (v,h)) (o:lH s) (j:rK l):jH v:=by
 unfold val at a;split at a
 ·cases a;decide
 ·exact oq a o j
theorem s4 {C:Cx} {n:Nat} {s h:Ms} {l:Lo} {j:List Ex} {v:Int} (a:val C n s l j=.ok (v,h)):h.left<=s.left:=by
 unfold val at a;split at a
 ·cases a;exact ak _
 ·exact ph a
theorem zU {C:Cx} {n:Nat} {s a:Ms} {l:Lo} {xs:List St} {v:Option Int×Lo} (h:nO (λs l y=>st C n s l y) s l xs=.ok (v,a)):a.left<=s.left:=by
 have:=pz (Q:=λa=>a.left<=s.left) (λj l x h=>(ua (jY C.R s.left) rfl n).2.1 j l x h) xs l s (ak _);rw[h]at this;exact this
end
section
open Go.RowKit
def MF (X:MX) (w:World):Prop:=(∃cs:Array Value,aU w X.g 127 cs/\cs[0]? =some (.map (some X.bf)))/\ ∃L,cd w X.bf L/\ ∀s,(L s).getD (.agg #[.string ⟨#[]⟩,.slice none 0 0,.slice none 0 0])=X.fv s
def UF (X:MX) (a c:World):Prop:=Mv X.S a c/\(MF X a->MF X c)
section
variable {X:MX} {C:Cx} {σ σ':Ms} {w w' a b c:World}
theorem MA.mf (h:MA X C σ w):MF X w:=by
 obtain⟨lf,_,_,_,j⟩:=h.blk;exact⟨⟨_,j,rfl⟩,h.f⟩
theorem MF.c0 (o:MF X w):w.cell? ⟨X.g,0,none⟩=some (.map (some X.bf)):=by
 obtain⟨⟨z,h,j⟩,_⟩:=o;rw[h.cell,j]
theorem MF.look (h:MF X w) {s:List UInt8} (z:s.length<=1073741824):(Instr.lookup 123 (.map (some X.bf)) (.string (J s)) false).run prog w=.ok (X.fv s) w:=by
 obtain⟨_,L,o,j⟩:=h;rw[(o.look Ih Qg).1,j]
theorem MF.ext (z:MF X w) (h:az w w'):MF X w':=by
 obtain⟨⟨K,j,o⟩,L,G,A⟩:=z;exact⟨⟨K,j.ext h,o⟩,L,G.ext h,A⟩
theorem UF.trans (h:UF X a b) (k:UF X b c):UF X a c:=⟨h.1.trans k.1,λx=>k.2 (h.2 x)⟩
theorem UF.of_ext (h:az a b):UF X a b:=⟨.of_ext h,λx=>x.ext h⟩
theorem UF.of_ma (h:Mv X.S w w') (j:MA X C σ w'):UF X w w':=⟨h,λ_=>j.mf⟩
end
section
variable {P:Program} {ops:Array Oper} {Q:Exit->Act->World->Prop}
theorem kJ (j:MX) {id:Nat} {a:Act} {o:World} (m f:Nat) (l:List xC) (x:Nat) (K:P.follows .mixedOrders=true) (G:E_ ops m a.tmps.size=true)
  (A:jN az l) (z:mL x (UF j) l)
  (h:eL P Q ops f (eW l) (some x) (λ_=>false) az (UF j) o.drew (λa w=> ∀w',Mv j.S o w'->(∀p∈w,p.2 w')->wpList P ops Q (ops.toList.drop m) a w') (ops.toList.take m) 0 a []):(Code.region id ops true).wp P Q a o:=by
 refine fC m f (eW l) (some x) az (UF j) K G aS (λ_ _ _=>UF.trans) (λ_ _ h=> .of_ext h) (λ_ _ _=>oB) A.out z.out ?_;exact eL.fin (λa w h w' O M=>h w' O.1.un M) _ _ _ _ h
end
section
variable {X:MX} {C:Cx} {σ σ':Ms} {l:Lo} {fb lb:Nat} {w W W':World} {cs:Array Value} {v:Value} {xs:List Ex} {rw0:Option Nat}
theorem EQ.row (a:EQ X C σ l fb lb w w.heap.size cs v xs W) (A:W.grownBy W' rw0) (h: ∀k,rw0=some k->w.heap.size+1<=k) (lf:fb<w.heap.size) (M:lb<w.heap.size):EQ X C σ l fb lb w w.heap.size cs v xs W':=by
 have j:Mv (λk=>rw0=some k) W W':=.of_grown A λk e=>e;have o:=a.hw;have K:=a.ma.ok.g;exact⟨a.mv.tr j λi O e=>by have:=h i e;omega,a.ma.mv j λk z e=>by have:=h k e;omega,⟨a.fi.fr.mv j (λe=>by have:=h _ e;omega) (λe=>by have:=h _ e;omega),a.fi.f,a.fi.l⟩,j.blk a.bk (λe=>by have:=h _ e;omega),a.re.keep (j.keepP λk z _ e=>by have:=h k e;simp only[MX.S,MX.P]at*;omega) λb G _=>G,a.hp,o⟩
end
def qd (C:Cx) (n:Nat) (σ:Ms) (l:Lo) (nm:List UInt8) (xs:List Ex):ER Int:=match fp nm with
 |some (c,ls)=>qf C.R (λs y=>ev C n s l y) σ c ls xs
 |none=>(xo (λs y=>ev C n s l y) [] σ xs).then λvs s=>gK (λs l y=>st C n s l y) (C.fn nm) vs s
def xE (X:MX) (C:Cx) (n:Nat) (k:Int) (op nm tx:List UInt8) (v:Int) (xs:List Ex):Prop:= ∀(σ:Ms) (l:Lo) (fb lb:Nat) (w:World) (A:Option Addr) (c:Nat),MA X C σ w->FI X fb lb l none w->2*σ.left<=n->c7 w X.P (.slice A xs.length c) xs->
 Calls prog 187 #[X.p,.pointer (some ⟨fb,0,none⟩),.agg #[.int i64 k,.string (J op),.string (J nm),.string (J tx),.int i64 v,.slice A xs.length c]] w (wg X C w (qd C n σ l nm xs))
def FP (X:MX) (C:Cx) (n:Nat) (k:Int) (op nm tx:List UInt8) (v:Int) (xs:List Ex) (bc:Int) (ls:List UInt8):Prop:= ∀(σ:Ms) (l:Lo) (fb lb:Nat) (w:World) (A:Option Addr) (c:Nat),MA X C σ w->FI X fb lb l none w->2*σ.left<=n->c7 w X.P (.slice A xs.length c) xs->
 Calls prog 209 #[X.p,.pointer (some ⟨fb,0,none⟩),.agg #[.int i64 k,.string (J op),.string (J nm),.string (J tx),.int i64 v,.slice A xs.length c],.int i64 bc,.string (J ls)] w (wg X C w (qf C.R (λs y=>ev C n s l y) σ bc ls xs))
theorem vM (ao:MX) (C:Cx) (n:Nat) (k:Int) (op nm tx:List UInt8) (v:Int) (xs:List Ex) (M:Int) (ls:List UInt8) (ag:fp nm=some (M,ls)) (ab:FP ao C n k op nm tx v xs M ls):xE ao C n k op nm tx v xs:=by
 intro K l an ae ad G c al aj af I;unfold FP at ab;have ac:=O ab;obtain⟨ap,X⟩: ∃ay,qd C n K l nm xs=ay:=⟨_,rfl⟩
 have au:=O (show qf C.R (λs y=>ev C n s l y) K M ls xs=ap by rw[<-X];unfold qd;rw[ag]);rw[X];obtain⟨N,ah⟩: ∃N,xs.length=N:=⟨_,rfl⟩
 rw[ah]at I ac⊢;have A:=O (kd al aj I #[.int i64 k,.string (J op),.string (J nm),.string (J tx),.int i64 v,.slice G N c])
 have V:=O (show Calls prog 22 #[.string (J nm)] (ad.alloc (.cells #[.int i64 k,.string (J op),.string (J nm),.string (J tx),.int i64 v,.slice G N c] 70)) λe w'=>e=.returned (.tuple #[.int i64 M,.string (J ls),.bool true])/\az (ad.alloc (.cells #[.int i64 k,.string (J op),.string (J nm),.string (J tx),.int i64 v,.slice G N c] 70)) w' from by
  have:=mC nm _ A.out.ma.t;rw[ag]at this
  exact this)
 clear al aj I ah ab X;simp only[MX.p]at*;have aq:True:=trivial;go_enter func187,ntmps187;rcases ap with aC|⟨z,s1⟩
 ·go_wp2_with (first|(go_at_call 22;clear aq;refine V.out.mono ?_;rintro e aw ⟨rfl,o⟩;have a:=O (A.out.ext o);have ax:=a.out.bk.cell;clear o V A)|(go_at_call 209;refine(ac.out K l an ae _ G c a.out.ma a.out.fi af a.out.re).mono ?_;rw[au.out];intro e av w;obtain⟨j,rfl,ai⟩:=w.err_;have aA:=O (a.out.mv.trans j);have aB:=O ai;clear j ai w));exact⟨rfl,dK aA.out rfl rfl aB.out⟩
 ·go_wp2_with (first|(go_at_call 22;clear aq;refine V.out.mono ?_;rintro e aw ⟨rfl,o⟩;have a:=O (A.out.ext o);have ax:=a.out.bk.cell;clear o V A)|(go_at_call 209;refine(ac.out K l an ae _ G c a.out.ma a.out.fi af a.out.re).mono ?_;rw[au.out];intro e av w;obtain⟨j,rfl,ak⟩:=w.ok_;have ar:=O (a.out.nx j ak);clear j ak w));go_ret;exact fh ar.out.mv rfl ar.out.ma
theorem vN (w:MX) (C:Cx) (n:Nat) (k:Int) (op nm tx:List UInt8) (v:Int) (xs:List Ex) (bg:nm.length<=1073741824) (bL:gA xs<=1073741824) (aj:fp nm=none) (bN:(C.fn nm).ps.length<=xs.length) (bl: ∀y∈xs,oQ w C n y) (bm:FJ w C n):xE w C n k op nm tx v xs:=by
 intro aq l br ba K ap c an aC bh aA;have bj:=dH xs;have bY:=O bl;have b0:=O bm;have bw:=O aA;obtain⟨af,aN⟩: ∃bV,qd C n aq l nm xs=bV:=⟨_,rfl⟩
 have b9:=O (show(xo (λs y=>ev C n s l y) [] aq (xs.drop 0)).then (λvs s=>gK (λs l y=>st C n s l y) (C.fn nm) vs s)=af by rw[<-aN];unfold qd;rw[aj];rfl);rw[aN];obtain⟨N,aO⟩: ∃N,xs.length=N:=⟨_,rfl⟩
 have bA:=O aO;rw[aO]at aA bw bN bj⊢;have ch:N<=1073741824:=Qa
 have lf:=aC.fr.blk.lt;have a9:=aC.fr.m.lt;have bC:=O (aE lf a9);have aR:=O (kd an aC aA #[.int i64 k,.string (J op),.string (J nm),.string (J tx),.int i64 v,.slice ap N c])
 have bE:=O (show Calls prog 22 #[.string (J nm)] (K.alloc (.cells #[.int i64 k,.string (J op),.string (J nm),.string (J tx),.int i64 v,.slice ap N c] 70)) λe w'=>e=.returned (.tuple #[.int i64 0,.string ⟨#[]⟩,.bool false])/\az (K.alloc (.cells #[.int i64 k,.string (J op),.string (J nm),.string (J tx),.int i64 v,.slice ap N c] 70)) w' from by
  have:=mC nm _ aR.out.ma.t;rw[aj]at this
  exact this)
 have cp:=O (lG.nil_ K (K.heap.size+1));have b2:=O (show 2*aq.left<=n from bh);have b7:=O (show nM []from λx bK=>by cases bK);clear an aC aA aO bl bm aN lf a9 bj bL bh;simp only[MX.p]at*;have bZ:True:=trivial;go_enter func187,ntmps187;go_wp2_with (go_at_call 22;clear bZ;refine bE.out.mono ?_;rintro e aG ⟨rfl,ad⟩;have bx:=O (aR.out.ext ad);have aV:=O (lG.nil_ aG (K.heap.size+1));have aQ:=bx.out.bk.cell;clear ad bE aR);clear aQ
 go_loopw [10,30] (λbI aH wr=> ∃(a:Nat) (B:Option Addr) (d:Nat) (vs:List Int) (G:Ms),aH=.int i64 (a:Int)/\bI=.slice B a d/\a<=N/\Hid (vs.length=a)/\Hid (2*G.left<=n)/\Hid ((xo (λs y=>ev C n s l y) vs G (xs.drop a)).then (λvs s=>gK (λs l y=>st C n s l y) (C.fn nm) vs s)=af)/\Hid (EQ w C G l br ba K K.heap.size #[.int i64 k,.string (J op),.string (J nm),.string (J tx),.int i64 v,.slice ap N c] (.slice ap N c) xs wr)/\Hid (lG wr (K.heap.size+1) (.slice B a d) vs)/\Hid (nM vs)) (λ_ aH _=>N-(intOf aH).toNat)
 case atStart=>exact⟨0,none,0,[],aq,rfl,rfl,aI _,O rfl,b2,b9,bx,aV,b7⟩
 case round=>
  obtain⟨a,B,d,vs,G,rfl,rfl,cg,aD,aX,aT,o,aW,bD⟩:=hrel;by_cases hlt:a<N
  ·have bO:(a:Int)<N:=Qa
   have aK:a<xs.length:=by have:=bA.out;omega
   obtain⟨b,cd,bF,bt,rfl,aj,bQ,av,ax⟩:=bw.out.yc a aK;have ab:=Bq (E:=λs y=>ev C n s l y) (vs:=vs) (s:=G) aK;have al:=bY.out _ (ay aK);obtain⟨y,bc⟩: ∃y,xs[a]=y:=⟨_,rfl⟩
   rw[bc]at av ax ab al;clear bc;obtain⟨bb,a3,a5,a2,a1,bu⟩:=y;unfold oQ at al;simp only[Ex.k,Ex.op,Ex.nm,Ex.tx,Ex.v,Ex.args]at av ax al;obtain⟨cn,cm,cl,ck,cj,ci⟩:=av.ms o.out.mv bQ aj;have aP:=Z wr (.cells #[.int i64 bb,.string (J a3),.string (J a5),.string (J a2),.int i64 a1,.slice bF bu.length bt] 70);have V:=O (o.out.ext aP);have aV:=O (aW.out.ext aP);have ag:=O (al G l br ba _ bF bt V.out.ma V.out.fi aX.out (ax.ms V.out.mv));simp only[MX.p]at ag;have bd:=V.out.ma.rng;have bi:=V.out.fi.fr.rng;clear al aP av ax o aW;rcases M:ev C n G l (.mk bb a3 a5 a2 a1 bu)with a4|⟨z,s2⟩
   ·rw[M,fj]at ab;have ao:=O (show af=.error a4 by rw[<-aT.out,ab];rfl);rw[M]at ag;clear ab M;go_wp2_with (go_at_call 164;refine ag.out.mono ?_;intro e ar j;obtain⟨A,rfl,aB⟩:=j.err_;have b4:=O (V.out.mv.trans A);have b8:=O aB;clear A aB j ag);exact⟨rfl,dK b4.out ao.out rfl b8.out⟩
   ·have bJ:=oq M bd bi;have ce:=ph M;rw[M,gh]at ab;have ao:=O (show(xo (λs y=>ev C n s l y) (vs++[z]) s2 (xs.drop (a+1))).then (λvs s=>gK (λs l y=>st C n s l y) (C.fn nm) vs s)=af by rw[<-aT.out,ab]);rw[M]at ag;clear ab M bd bi;go_wp2_with (first|(go_at_call 164;refine ag.out.mono ?_;intro e ar j;obtain⟨A,rfl,bq⟩:=j.ok_;have aM:=Z ar (.cells #[.int .i32 z] 21);have bv:=O ((V.out.nx A bq).ext aM);have bz:=O ((aV.out.mv A (λk cf _=>MX.S_lt (by have:=V.out.hw;omega))).ext aM);have b3:=O (aw ar 21 #[.int .i32 z]);clear A bq j ag aM)|(at_builtin;refine eA Hs rfl _ _ rfl (K.heap.size+1) _ a (rm vs) rfl (by have:=bz.out;unfold lG at this;rw[aD.out]at this;exact this) ar.heap.size [.int .i32 z] rfl b3.out rfl (by simp[Value.oneCell']) Qa Qc (by have:=bv.out.bk.lt;omega) ?_;intro cb cap' cc bf be bM;have b1:=O (lG.snoc aD.out bf);have bX:=O (bv.out.row be (λk e=>((World.ownsRow.lt bz.out) k e).1) bC.out.1 bC.out.2);clear bf be bM));go_roundw
    case rel=>exact⟨a+1,some ⟨cb,0,none⟩,cap',vs++[z],s2,by go_num,rfl,by omega,O (by rw[ac,aD.out];rfl),O (by have:=aX.out;omega),ao,bX,b1,O (bD.out.snoc bJ)⟩
    case measure=>simp[intOf];omega
  ·obtain rfl:a=N:=Qa
   have bO: ¬(a:Int)<a:=Qa
   have ao:=O (show gK (λs l y=>st C n s l y) (C.fn nm) vs G=af by rw[<-aT.out,aL (by have:=bA.out;omega),xo];rfl);have bn: ∀W,az wr W->Calls prog 48 #[w.p,w.fv nm,.slice B a d] W (wg w C W af):=λW ad=>by
    have bS:=(aW.out.ext ad).rd;have bo:=aD.out
    have ah:=b0.out nm G W B d vs (o.out.ma.ext ad) aX.out (by
     rw[bo]
     exact bS.keep (Q:=λb=>w.hi<=b) ⟨ak _,λ_ _ _=>rfl⟩ λb aj _=>by have:=o.out.hw;omega) bD.out Qa
    rw[bo,ao.out]at ah;exact ah
   have aU:=O bn;clear bn;simp only[MX.p]at aU;have bB:=O (o.out.ma.mf.ext (kE (aS wr)));go_wp2_with fail;rcases af with a4|⟨z,s2⟩
   ·refine kJ w 10 8 [(9,λx=>x=.int .i32 0,λ_ _=>False)] 9 mixed Qb ⟨λ_ _ _ j _=>j,trivial⟩ ⟨.inl rfl,trivial⟩ ?_
    iterate 9 (refine sx ?_ (λaG I=> ?_) ?_;rotate_left;(focus have X:=I.2 bB.out;have bU:=X.c0;have aQ:=(I.1.un.blk o.out.bk (MX.S_lt o.out.hw)).cell;have bT:=X.look bg;clear I X;go_simp<;>with_reducible rfl);simp only[a8,a7,a6,aZ,aY])
    refine bR _ _ Qe rfl ⟨_,rfl⟩ rfl (λaF ai R bW bp=> ?_) ?_
    ·clear R;have ah:=aU.out aF ai.un;have b6:=O (o.out.mv.trans (.of_ext ai.un));clear ai;go_simp;refine ah.mono ?_;intro e bH j;obtain⟨A,rfl,aB⟩:=j.err_;intro co bP;exact⟨bP,dK (b6.out.trans A) rfl rfl aB⟩
    rintro _ rfl;simp only[a8,a7,a6,aZ,aY];intro bG aJ R;exact(R _ (.head _)).elim
   ·refine kJ w 10 8 [(9,λx=>x=.int .i32 z,λ_ W=>MA w C s2 W)] 9 mixed Qb ⟨λ_ _ _ j ad=>j.ext ad,trivial⟩ ⟨.inl rfl,trivial⟩ ?_
    iterate 9 (refine sx ?_ (λaG I=> ?_) ?_;rotate_left;(focus have X:=I.2 bB.out;have bU:=X.c0;have aQ:=(I.1.un.blk o.out.bk (MX.S_lt o.out.hw)).cell;have bT:=X.look bg;clear I X;go_simp<;>with_reducible rfl);simp only[a8,a7,a6,aZ,aY])
    refine bR _ _ Qe rfl ⟨_,rfl⟩ rfl (λaF ai R bW bp=> ?_) ?_
    ·clear R;have ah:=aU.out aF ai.un;clear ai;go_simp;refine ah.mono ?_;intro e bH j;obtain⟨A,rfl,an⟩:=j.ok_;exact bp _ _ (UF.of_ma A an) rfl an
    rintro _ rfl;simp only[a8,a7,a6,aZ,aY];intro bG aJ R;have b5:=O (o.out.mv.trans aJ);have ca:=O (R _ (.head _));clear aJ R;simp only[ae,au];go_wp2_with fail;go_ret;exact fh b5.out rfl ca.out
def jm:=@MX.S_lt
end
end Go.Proofs.YtddomeddabfinaaGreatDoor
