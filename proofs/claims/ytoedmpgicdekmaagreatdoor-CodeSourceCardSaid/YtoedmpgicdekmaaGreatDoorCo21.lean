/- Parts of the proof. -/
import Derived.Test.YtoedmpgicdekmaaGreatDoorCo19
import Derived.Test.YtoedmpgicdekmaaGreatDoorCo20
set_option maxRecDepth 100000
set_option maxHeartbeats 8000000
set_option linter.all false
namespace Go.Proofs.YtoedmpgicdekmaaGreatDoor
open Go.Proofs.Tryz
section
open Go.RowKit
def iO (p:Pg):Er:=if lJ p=true then(match lB p with| .ok _=>([],0)| .error e=>e)else([],1)
structure CW (w:World) (sv sf x y:Value) (W:World):Prop where
 e:au w W
 b0:aO W w.heap.size 31 #[sv,sf]
 b1:aO W (w.heap.size+1) 9 #[x]
 b2:aO W (w.heap.size+1+1) 33 #[y]
theorem GV (a:World) (h o x d:Value):CW a h o x d (((a.alloc (.cells #[h,o] 31)).alloc (.cells #[x] 9)).alloc (.cells #[d] 33)):=by
 refine⟨((aa a _).alloc' _).alloc' _,((aq a _ _).alloc _).alloc _,?_,?_⟩
 ·have:=(aq (a.alloc (.cells #[h,o] 31)) 9 #[x]).alloc (.cells #[d] 33);rwa [World.size_alloc]at this
 ·have:=aq ((a.alloc (.cells #[h,o] 31)).alloc (.cells #[x] 9)) 33 #[d];rwa [World.size_alloc,World.size_alloc]at this
section
variable {w W W':World} {sv sf x y:Value}
theorem CW.ex (d:CW w sv sf x y W) (a:au W W'):CW w sv sf x y W':=⟨d.e.trans a,d.b0.ext a,d.b1.ext a,d.b2.ext a⟩
theorem CW.lt (a:CW w sv sf x y W):w.heap.size+1+1<W.heap.size:=a.b2.lt
theorem CW.put (a:CW w sv sf x y W) (p q:Value):CW w sv sf p q ((W.setCell ⟨w.heap.size+1,0,none⟩ p).setCell ⟨w.heap.size+1+1,0,none⟩ q):=by
 refine⟨(a.e.set (by show w.heap.size<=w.heap.size+1;omega) _).set (by show w.heap.size<=w.heap.size+1+1;omega) _,(a.b0.far (p:=⟨w.heap.size+1,0,none⟩) (by show _≠w.heap.size+1;omega) _).far (p:=⟨w.heap.size+1+1,0,none⟩) (by show _≠w.heap.size+1+1;omega) _,?_,?_⟩
 ·have:=(a.b1.set 0 p).far (p:=⟨w.heap.size+1+1,0,none⟩) (by show _≠w.heap.size+1+1;omega) q;simpa using this
 ·have:=(a.b2.far (p:=⟨w.heap.size+1,0,none⟩) (by show _≠w.heap.size+1;omega) p).set 0 q;simpa using this
theorem CW.mv {S:Nat->Prop} (a:CW w sv sf x y W) (d:Mv S W W') (h: ∀k,k<=w.heap.size+1+1-> ¬S k):CW w sv sf x y W':=by
 have z:=a.lt;have u:au w W':=⟨d.os.trans a.e.os,d.tape.trans a.e.tape,d.output.trans a.e.output,ay a.e.size d.size,λk o=>(d.block k J (h k J)).trans (a.e.obj o)⟩
 exact⟨u,d.blk a.b0 (h _ J),d.blk a.b1 (h _ J),d.blk a.b2 (h _ J)⟩
theorem CW.drew (a:CW w sv sf x y W):CW w sv sf x y W.drew:=⟨a.e.drew,a.b0.drew,a.b1.drew,a.b2.drew⟩
end
theorem uv (u o:Value) (a:World):
  CallsD prog 29 #[u,o] .returning a λe d w'=>e=.returned (.tuple #[])/\d=.returning/\w'=a:=by
 refine callsD_of_wpS func29 rfl λy z w=> ?_;apply wpS_seq;apply wpS_region;simp[wpOpsS,go_sem,recoverD,w,ntmps29,Exit.thenS];apply wpS_seq;apply wpS_region;simp[wpOpsS,go_sem,Exit.thenS];refine wpS_cond (t:=false) (by simp[Act.eval]) ?_;simp only[aR,if_false];refine wpS_of_wp (wp_skip ?_)
 cases y;simp_all[bodyPostS,results,results29]
theorem sU (d a:World) (z A x X:Value) (nm:List UInt8) (n:Int) (F:List PanicEntry) (w:CW d z A x X a):
  CallsD prog 29 #[.pointer (some ⟨d.heap.size+1,0,none⟩),.pointer (some ⟨d.heap.size+1+1,0,none⟩)] (.panicking ({v:=.iface 84 (.agg #[.string (Z nm),.int .i64 n]),recovered:=false}::F)) a λe I w'=>
   e=.returned (.tuple #[])/\I=.panicking ({v:=.iface 84 (.agg #[.string (Z nm),.int .i64 n]),recovered:=true}::F)/\CW d z A (.string (Z nm)) (.int .i64 n) w':=by
 have R:=aa a (.cells #[.string (Z nm),.int .i64 n] 84);have af:=G (aq a 84 #[.string (Z nm),.int .i64 n]);have o:=G (w.ex R);have an:=w.lt;clear R w;refine callsD_of_wpS func29 rfl λap ar H=> ?_;apply wpS_seq;apply wpS_region;simp[wpOpsS,go_sem,recoverD,H,ntmps29,Exit.thenS];have V: ∀v u b:Value,#[u,b]++((Array.replicate 18 undef).setIfInBounds 3 v).setIfInBounds 0 v= #[u,b,v,undef,undef,v,undef,undef,undef,undef,undef,undef,undef,undef,undef,undef,undef,undef,undef,undef]:=by
  intro v u b;apply jF;simp[jq]
 rw[V];clear V;apply wpS_seq;apply wpS_region;simp[wpOpsS,go_sem,Exit.thenS];refine wpS_cond (t:=true) (by simp[Act.eval]) ?_;simp only[if_true];refine wpS_of_wp ?_;have ad: ∀(v:Value) (y:TypeId) (a:World),(Instr.typeAssert (.iface 84 v) y 84 true).run prog a=.ok (.tuple #[v,.bool true]) a:=λv y a=>by simp[Instr.typeAssert,run_underlying underlying84]
 go_wp2_with fail;clear ad;have ao:=af.out.cell;have c1:=o.out.b1.cell;have c2:=o.out.b2.cell;have ah:=o.out.b1.frozen;have ag:=o.out.b2.frozen;have am:a.heap.size≠d.heap.size+1:=J
 have al:a.heap.size≠d.heap.size+1+1:=J
 have aj:d.heap.size+1≠d.heap.size+1+1:=J
 generalize a.alloc (.cells #[.string (Z nm),.int .i64 n] 84)=ai at*;go_region;have ae:=o.out.put (.string (Z nm)) (.int .i64 n);refine⟨rfl,_,rfl,.tuple #[],?_,rfl,rfl,ae.drew⟩;simp[results,results29]
theorem De (a:World) (d h:Value) (F:BT a):CK ⟨a.heap.size+1+1+1,a.heap.size,a.heap.size+1,a.heap.size+1+1,d,h⟩ tE (.map none) gK ((((a.alloc (.map #[] 0)).alloc (.map #[] 0)).alloc (.map #[] 0)).alloc (.cells #[d,h,.map (some a.heap.size),.map (some (a.heap.size+1)),.map (some (a.heap.size+1+1)),.map none] 90)):=by
 have G:=aa a (.map #[] 0);have A:=aa (a.alloc (.map #[] 0)) (.map #[] 0);have u:=aa ((a.alloc (.map #[] 0)).alloc (.map #[] 0)) (.map #[] 0);have o:=aa (((a.alloc (.map #[] 0)).alloc (.map #[] 0)).alloc (.map #[] 0)) (.cells #[d,h,.map (some a.heap.size),.map (some (a.heap.size+1)),.map (some (a.heap.size+1+1)),.map none] 90);have z:=(((kM a).ext A).ext u).ext o;have y:=((kM (a.alloc (.map #[] 0))).ext u).ext o;have w:=(kM ((a.alloc (.map #[] 0)).alloc (.map #[] 0))).ext o;have b:=aq (((a.alloc (.map #[] 0)).alloc (.map #[] 0)).alloc (.map #[] 0)) 90 #[d,h,.map (some a.heap.size),.map (some (a.heap.size+1)),.map (some (a.heap.size+1+1)),.map none];simp only[World.size_alloc]at z y w b;exact⟨b,z.congr λs=>rfl,y.congr λs=>rfl,w.congr λs=>rfl,.inl ⟨rfl,rfl⟩,(((F.ext G).ext A).ext u).ext o⟩
theorem pu (p:Pg) (ay:mC p<=6000000) (P:Nat->Prop) (a:World) (z B:Option Addr) (n c m y:Nat) (az:nM a P (.slice z n c) p.vs) (aB:nP a P (.slice B m y) p.fs) (aA:ew a a.heap.size) (ai:BT a):
  Calls prog 11 #[.agg #[.slice z n c,.slice B m y]] a λe w'=>e=.returned (.tuple #[.string (Z (iO p).1),.int .i64 (iO p).2])/\au a w':=by
 have aO:= @run_makeMap prog;have aP: ∀(fn:Fn) (first aC:Array Value) (a:World),(Instr.makeFunc fn first aC).run prog a=.ok (.func fn first aC) a:=λ_ _ _ _=>rfl;have X:=G (GV a (.slice z n c) (.slice B m y) (.string ⟨#[]⟩) (.int .i64 0));have ao:=G (az.keep (Q:=λb=>b<a.heap.size) ⟨ah _,λ_ _ _=>rfl⟩ (λb aj H=>H));have ar:=G (aB.keep (Q:=λb=>b<a.heap.size) ⟨ah _,λ_ _ _=>rfl⟩ (λb aj H=>H));have an:=G (λW (ad:au a W)=>xY p ay (λb=>b<a.heap.size) W z B n c m y (ao.out.keep (.of_ext ad) (λb w _=>w)) (ar.out.keep (.of_ext ad) (λb w _=>w)) (gR aA ad));have aE:=G ai;have ap:=G (show iO p=if lJ p=true then(match lB p with| .ok _=>([],0)| .error e=>e)else([],1)from rfl);have aF:=G (fun(aD:CB) (aM:aD.Ok) hg W aj H h3 h4=>AN p ay aD aM hg (λb=>b<a.heap.size) W aj H h3 h4);have aQ:1<a.heap.size:=by obtain⟨t,fr,ad⟩:=ai;exact(Array.getElem?_eq_some_iff.1 ad).1
 clear az aB aA ai;generalize lJ p=ok at*;generalize lB p=r at*
 cases ok with
 |false=>
  have ag:=G (show iO p=([],1)from ap.out);go_enter_defers func11,ntmps11;go_wp2_with (go_at_call 28;refine(an.out _ X.out.e).mono ?_;rintro e d ⟨rfl,A⟩;have o:=G (X.out.ex A);have c1:=o.out.b1.cell;have aH:=o.out.b1.frozen;have c2:=o.out.b2.cell;have aG:=o.out.b2.frozen;clear A);have am:=G (o.out.put (.string ⟨#[]⟩) (.int .i64 1));have af:=am.out.b1.cell;have ae:=am.out.b2.cell;refine⟨.tuple #[.string ⟨#[]⟩,.int .i64 1],?_,by rw[ag.out];rfl,am.out.e⟩;simp[results,results11,go_sem,af,ae]
 |true=>
  cases r with
  |ok u=>
   have ag:=G (show iO p=([],0)from ap.out);go_enter_defers func11,ntmps11;go_wp2_with (first|(go_at_call 28;refine(an.out _ X.out.e).mono ?_;rintro e d ⟨rfl,A⟩;have o:=G (X.out.ex A);have aN:=o.out.b0.cell;have aq:=G (De d (.slice z n c) (.slice B m y) (aE.out.ext o.out.e));have av:=G ((((aa d (.map #[] 0)).alloc' (.map #[] 0)).alloc' (.map #[] 0)).alloc' (.cells #[.slice z n c,.slice B m y,.map (some d.heap.size),.map (some (d.heap.size+1)),.map (some (d.heap.size+1+1)),.map none] 90));have aK:=o.out.lt;have V:=G (o.out.ex av.out);clear A)|(go_at_call 30;refine(aF.out ⟨d.heap.size+1+1+1,d.heap.size,d.heap.size+1,d.heap.size+1+1,.slice z n c,.slice B m y⟩ ⟨by simp only;omega,by simp only;omega,by simp only;omega,by simp only;omega,by simp only;omega,by simp only;omega⟩ Qi _ (ao.out.keep (.of_ext V.out.e) (λb w _=>w)) (ar.out.keep (.of_ext V.out.e) (λb w _=>w)) (λb w F=>by simp only[CB.U,CB.S]at F;omega) aq.out).mono ?_;unfold J8 cL;rintro e ax ⟨I,rfl⟩;have R:=G (V.out.mv I (λk aL F=>by simp only[CB.U,CB.S]at F;omega));have c1:=R.out.b1.cell;have aH:=R.out.b1.frozen;have c2:=R.out.b2.cell;have aG:=R.out.b2.frozen;clear I));have al:=G (R.out.put (.string ⟨#[]⟩) (.int .i64 0));refine leaves_cons (f:=29) (args:= #[.pointer (some ⟨a.heap.size+1,0,none⟩),.pointer (some ⟨a.heap.size+1+1,0,none⟩)]) Qe Qm ?_;refine(uv _ _ _).mono ?_;rintro e aJ aI ⟨rfl,rfl,rfl⟩;have af:=al.out.b1.cell;have ae:=al.out.b2.cell;refine(show Leaves _ _ _ _ [] .returning _ from ?_);refine⟨.tuple #[.string ⟨#[]⟩,.int .i64 0],?_,by rw[ag.out];rfl,al.out.e⟩;simp[results,results11,go_sem,af,ae]
  |error q=>
   obtain⟨nm,en⟩:=q;have ag:=G (show iO p=(nm,en)from ap.out);go_enter_defers func11,ntmps11;go_wp2_with (first|(go_at_call 28;refine(an.out _ X.out.e).mono ?_;rintro e d ⟨rfl,A⟩;have o:=G (X.out.ex A);have aN:=o.out.b0.cell;have aq:=G (De d (.slice z n c) (.slice B m y) (aE.out.ext o.out.e));have av:=G ((((aa d (.map #[] 0)).alloc' (.map #[] 0)).alloc' (.map #[] 0)).alloc' (.cells #[.slice z n c,.slice B m y,.map (some d.heap.size),.map (some (d.heap.size+1)),.map (some (d.heap.size+1+1)),.map none] 90));have aK:=o.out.lt;have V:=G (o.out.ex av.out);clear A)|(go_at_call 30;refine(aF.out ⟨d.heap.size+1+1+1,d.heap.size,d.heap.size+1,d.heap.size+1+1,.slice z n c,.slice B m y⟩ ⟨by simp only;omega,by simp only;omega,by simp only;omega,by simp only;omega,by simp only;omega,by simp only;omega⟩ Qi _ (ao.out.keep (.of_ext V.out.e) (λb w _=>w)) (ar.out.keep (.of_ext V.out.e) (λb w _=>w)) (λb w F=>by simp only[CB.U,CB.S]at F;omega) aq.out).mono ?_;unfold J8 cL bw;rintro e ax ⟨I,rfl⟩;have R:=G (V.out.mv I (λk aL F=>by simp only[CB.U,CB.S]at F;omega));clear I));refine leaves_cons (f:=29) (args:= #[.pointer (some ⟨a.heap.size+1,0,none⟩),.pointer (some ⟨a.heap.size+1+1,0,none⟩)]) Qe Qm ?_;refine(sU a ax _ _ _ _ nm en _ R.out).mono ?_;rintro e aJ aI ⟨rfl,rfl,aw⟩;have af:=aw.b1.cell;have ae:=aw.b2.cell;refine(show Leaves _ _ _ _ [] .returning _ from ?_);refine⟨.tuple #[.string (Z nm),.int .i64 en],?_,by rw[ag.out],aw.e⟩;simp[results,results11,go_sem,af,ae]
def DT:List UInt8:=[102,117,110,99,32,109,97,105,110,40,41,32,123,32,114,101,116,117,114,110,32,51,48,48,59,32,125]
def jI:Pg:=oe (.mk 1 [] [] [] 300 [])
def DS:List cB:=[⟨2,[102,117,110,99],0,0⟩,⟨1,[109,97,105,110],0,5⟩,⟨5,[40],0,9⟩,⟨5,[41],0,10⟩,⟨5,[123],0,12⟩,⟨2,[114,101,116,117,114,110],0,14⟩,⟨3,[],300,21⟩,⟨5,[59],0,24⟩,⟨5,[125],0,26⟩]
theorem AP:ja DT=(DS,0,0):=Ql
theorem AQ:d9 44 ow DS=.ok (jI,[]):=Qb
theorem AS:lJ jI=true:=D7 Qd Qd Qd
theorem DR:dB DT=(jI,0,0):=by
 unfold dB;rw[AP];simp only[if_true];unfold xe;rw[show d9 (4*DS.length+8) ow DS=.ok (jI,[])from AQ];simp only[AS,if_true]
theorem Gk:(iO jI).2=0:=by
 have:lB jI=.ok ():=D8 (λg lo _=>by simp[qj,p8,CR.then]) (by simp[ek]);unfold iO;rw[AS,this];rfl
theorem FD:mC jI<=6000000:=Ql
def wk (w:World) (P:Nat->Prop) (v:Value) (R:Rs):Prop:=
 ∃A c,v=.slice A R.length c/\(R=[]\/R.length<=c/\c<=maxLen/\ ∃b o,A=some ⟨b,o,none⟩/\P b/\b<w.heap.size/\ ∃(da:Nat->Option Addr) (dc:Nat->Nat),∀i,(h:i<R.length)->w.cell? ⟨b,o+i*2,none⟩=some (.int .i64 R[i].1)/\w.cell? ⟨b,o+i*2+1,none⟩=some (.slice (da i) R[i].2.length (dc i))/\Sl w (da i) (dc i) R[i].2/\ ∀b2 o2,da i=some ⟨b2,o2,none⟩->R[i].2≠ []->P b2)
theorem Sl.keepP {o w':World} {P:Nat->Prop} {h:Option Addr} {c:Nat} {l:List UInt8} (d:Sl o h c l) (u:dM P o w') (w: ∀b a,h=some ⟨b,a,none⟩->l≠ []->P b):Sl w' h c l:=by
 refine⟨d.le,d.max,d.nil,?_⟩;by_cases hl:l=[]
 ·exact .inl hl
 rcases d.rd with y|⟨b,a,ha,hb,hc⟩
 ·exact .inl y
 ·exact .inr ⟨b,a,ha,aA hb u.size,λi hi=>(u.cell _ (w b a ha hl) hb).trans (hc i hi)⟩
theorem wk.keep {w w':World} {P:Nat->Prop} {v:Value} {y:Rs} (o:wk w P v y) (a:dM P w w'):wk w' P v y:=by
 obtain⟨H,c,rfl,o⟩:=o;refine⟨H,c,rfl,o.imp id fun⟨X,V,b,G,ha,h,d,I,aa,R⟩=>⟨X,V,b,G,ha,h,aA d a.size,I,aa,λi hi=> ?_⟩⟩;obtain⟨F,A,z,u⟩:=R i hi;exact⟨(a.cell _ h d).trans F,(a.cell _ h d).trans A,z.keepP a u,u⟩
structure MX where
 g:Nat
 bf:Nat
 bi:Nat
 ba:Nat
 lo:Nat
 hi:Nat
 rb:List UInt8->Nat
 fv:List UInt8->Value
 rv:Value
 al:List UInt8->Nat
 mv:Nat
end
section
end
section
open Go.RowKit
end
section
end
section
open Go.RowKit
end
section
end
section
open Go.RowKit
end
end Go.Proofs.YtoedmpgicdekmaaGreatDoor
