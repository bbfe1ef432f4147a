/-
  Parts of the proof: TyMu TyRc TyRp TyRd TyRy TyNz TyRx TyRz.
-/
import Derived.Test.YtddomeddabfinaaGreatDoorTu23
import Derived.Test.YtddomeddabfinaaGreatDoorTu25
import Derived.Test.YtddomeddabfinaaGreatDoorTu26
import Derived.Test.YtddomeddabfinaaGreatDoorTu18
import Derived.Test.YtddomeddabfinaaGreatDoorTu24
import Derived.Test.YtddomeddabfinaaGreatDoorTu00
set_option maxRecDepth 100000
set_option maxHeartbeats 8000000
set_option linter.unusedVariables false
set_option linter.unusedSimpArgs false
set_option linter.unusedSectionVars false
namespace Go.Proofs.YtddomeddabfinaaGreatDoor
open Go.Proofs.Tryz
section
open Go.RowKit
end
section
open Go.RowKit
def CC (o:Oc) (A:Option Addr) (n c:Nat):Array Value:= #[.int .i64 o.kind, .int .i64 o.call, .int .i64 o.a0, .int .i64 o.a1, .int .i64 o.a2, .slice A n c, .int .i64 (o.used:Int)]
structure RW (w:World) (sv sf:Value) (out:Array Value) (ev:Value) (W:World):Prop where
 e:au w W
 b0:aO W w.heap.size 34 #[sv,sf]
 b1:aO W (w.heap.size+1) 42 out
 b2:aO W (w.heap.size+1+1) 28 #[ev]
section
variable {w W W':World} {sv sf ev:Value} {out:Array Value}
theorem RW.ex (h:RW w sv sf out ev W) (hE:au W W'):RW w sv sf out ev W':=⟨h.e.trans hE,h.b0.ext hE,h.b1.ext hE,h.b2.ext hE⟩
theorem RW.lt (h:RW w sv sf out ev W):w.heap.size+1+1<W.heap.size:=h.b2.lt
theorem RW.mv {S:Nat->Prop} (h:RW w sv sf out ev W) (hM:Mv S W W') (hS: ∀k,k<=w.heap.size+1+1-> ¬S k):RW w sv sf out ev W':=by
 have hl:=h.lt;have hE:au w W':=⟨hM.os.trans h.e.os,hM.tape.trans h.e.tape,hM.output.trans h.e.output,a_ h.e.size hM.size,fun k hk=>(hM.block k (by omega) (hS k (by omega))).trans (h.e.obj hk)⟩
 exact⟨hE,hM.blk h.b0 (hS _ (by omega)),hM.blk h.b1 (hS _ (by omega)),hM.blk h.b2 (hS _ (by omega))⟩
end
abbrev zO:Array Value:= #[.int .i64 0, .int .i64 0, .int .i64 0, .int .i64 0, .int .i64 0, .slice none 0 0, .int .i64 0]
abbrev uJ (W:World) (g:Nat) (a b c d e f h:Value):World:=((((((W.setCell ⟨g,0,none⟩ a).setCell ⟨g,1,none⟩ b).setCell ⟨g,2,none⟩ c).setCell ⟨g,3,none⟩ d).setCell ⟨g,4,none⟩ e).setCell ⟨g,5,none⟩ f).setCell ⟨g,6,none⟩ h
theorem RW.put {w W:World} {sv sf ev:Value} (h:RW w sv sf zO ev W) (a b c d e f g u:Value):RW w sv sf #[a,b,c,d,e,f,g] u ((uJ W (w.heap.size+1) a b c d e f g).setCell ⟨w.heap.size+1+1,0,none⟩ u):=by
 have hM:Mv (fun k=>k=w.heap.size+1) W (uJ W (w.heap.size+1) a b c d e f g):=(((((((i7 (fun k=>k=w.heap.size+1) W).set (p:=⟨w.heap.size+1,0,none⟩) (fun _=>rfl) a).set (p:=⟨w.heap.size+1,1,none⟩) (fun _=>rfl) b).set (p:=⟨w.heap.size+1,2,none⟩) (fun _=>rfl) c).set (p:=⟨w.heap.size+1,3,none⟩) (fun _=>rfl) d).set (p:=⟨w.heap.size+1,4,none⟩) (fun _=>rfl) e).set (p:=⟨w.heap.size+1,5,none⟩) (fun _=>rfl) f).set (p:=⟨w.heap.size+1,6,none⟩) (fun _=>rfl) g;have hM2:Mv (fun k=>k=w.heap.size+1\/k=w.heap.size+1+1) W ((uJ W (w.heap.size+1) a b c d e f g).setCell ⟨w.heap.size+1+1,0,none⟩ u):=(hM.mono fun k _ e=> .inl e).set (p:=⟨w.heap.size+1+1,0,none⟩) (fun _=> .inr rfl) u;have hb1:aO (uJ W (w.heap.size+1) a b c d e f g) (w.heap.size+1) 42 #[a,b,c,d,e,f,g]:=by simpa using((((((h.b1.set 0 a).set 1 b).set 2 c).set 3 d).set 4 e).set 5 f).set 6 g
 have hl:=h.lt;have hE:au w ((uJ W (w.heap.size+1) a b c d e f g).setCell ⟨w.heap.size+1+1,0,none⟩ u):=⟨hM2.os.trans h.e.os,hM2.tape.trans h.e.tape,hM2.output.trans h.e.output,a_ h.e.size hM2.size,fun k hk=>(hM2.block k (by omega) (by omega)).trans (h.e.obj hk)⟩
 refine⟨hE,hM2.blk h.b0 (by omega),hb1.far (by show _≠w.heap.size+1+1;omega) u,?_⟩;have:=(hM.blk h.b2 (by omega)).set 0 u;simpa using this
theorem sD (W0 w:World) (sv sf:Value) (y:Value) (mvb:Nat) (X:MX) (o:Oc) (older:List PanicEntry) (H:RW W0 sv sf zO y w) (hm:aO w mvb 122 #[.pointer (some ⟨X.g,0,none⟩)]) (hH:wu X o w) (h1:W0.heap.size+1+1<X.g) (h2:X.g≠mvb) (h3:W0.heap.size+1+1<mvb) (h4:X.g<X.hi):
  CallsD prog 47 #[.pointer (some ⟨mvb,0,none⟩), .pointer (some ⟨W0.heap.size+1,0,none⟩), .pointer (some ⟨W0.heap.size+1+1,0,none⟩)] (.panicking ({v:= .iface 129 (.agg #[.int .i64 o.kind]),recovered:=false}::older)) w fun e u' w'=>
   e= .returned (.tuple #[])/\u'= .panicking ({v:= .iface 129 (.agg #[.int .i64 o.kind]),recovered:=true}::older)/\ ∃A c,RW W0 sv sf (CC o A o.data.length c) (.int .i64 0) w'/\Sl w' A c o.data:=by
 obtain⟨v0,v1,v2,v3,v4,v5,A,c,hbk,hsl,hq⟩:=hH;obtain⟨k,call,a0,a1,a2,data,used⟩:=o;simp only at hbk hsl hq⊢;obtain⟨nd,hnd⟩: ∃n,data.length=n:=⟨_,rfl⟩
 rw[hnd]at hbk⊢;obtain⟨g,bf,bi,ba,lo,hi,rb,fv,rv,al,mv⟩:=X;simp only at hbk hm h1 h2 hq h4⊢;have hxe:=O w (.cells #[.int .i64 k] 129);have HBw:=G (ax w 129 #[.int .i64 k]);have HC:=G (H.ex hxe);have HK:=G (hbk.ext hxe);have HMv:=G (hm.ext hxe);have HSl:=G (hsl.ext hxe);have hlt:=H.lt;have hg:=hbk.lt;have hmb:=hm.lt;clear hxe H hbk hm hsl;refine callsD_of_wpS func47 rfl fun c₀ cs hu=> ?_;apply wpS_seq;apply wpS_region;simp[wpOpsS,go_sem,recoverD,hu,ntmps47,Exit.thenS];have hT: ∀v a b c:Value,#[a,b,c]++((Array.replicate 24 undef).setIfInBounds 3 v).setIfInBounds 0 v= #[a,b,c,v,undef,undef,v,undef,undef,undef,undef,undef,undef,undef,undef,undef,undef,undef,undef,undef,undef,undef,undef,undef,undef,undef,undef]:=by
  intro v a b c;apply Array.ext';simp[List.replicate_succ]
 rw[hT];clear hT;apply wpS_seq;apply wpS_region;simp[wpOpsS,go_sem,Exit.thenS];refine wpS_cond (t:=true) (by simp[Act.eval]) ?_;simp only[if_true];refine wpS_of_wp ?_;have hta: ∀(v:Value) (xT:TypeId) (w:World),(Instr.typeAssert (.iface 129 v) xT 129 true).run prog w= .ok (.tuple #[v, .bool true]) w:=fun v xT w=>by simp[Instr.typeAssert,run_underlying underlying129]
 go_upto_region 5 with fail
 have hb:=HBw.out.cell;have km:=HMv.out.cell;have kg:=HK.out.cell;have kz:=HK.out.frozen;have n1:w.heap.size≠g:=by omega
 have n2:g≠w.heap.size:=by omega
 have n3:mvb≠g:=fun e=>h2 e.symm;have n4:W0.heap.size+1≠g:=by omega
 have n5:W0.heap.size+1+1≠g:=by omega
 have n6:W0.heap.size+1≠W0.heap.size+1+1:=by omega
 have n7:W0.heap.size+1+1≠W0.heap.size+1:=by omega
 generalize w.alloc (.cells #[.int .i64 k] 129)=w5 at*
 go_upto_region 6 with fail
 have hk6:aO (w5.setCell ⟨g,6,none⟩ (.int .i64 k)) g 127 #[v0,v1,v2,v3,v4,v5, .int .i64 k, .int .i64 call, .int .i64 a0, .int .i64 a1, .int .i64 a2, .slice A nd c, .int .i64 (used:Int)]:=by simpa using HK.out.set 6 (.int .i64 k)
 have HC6:=G (HC.out.mv (S:=fun b=>b=g) ((i7 (fun b=>b=g) w5).set (p:=⟨g,6,none⟩) (fun _=>rfl) (.int .i64 k)) fun b hb e=>by omega);have HSl6:=G (HSl.out.keepP (P:=fun b=>hi<=b) (((i7 (fun b=>b=g) w5).set (p:=⟨g,6,none⟩) (fun _=>rfl) (.int .i64 k)).keepP fun b hb _ e=>by omega) hq);have hm6:=(HMv.out.far (p:=⟨g,6,none⟩) n3 (.int .i64 k))
 clear hb km kg kz HK HC HMv HBw HSl;generalize w5.setCell ⟨g,6,none⟩ (.int .i64 k)=w6 at*;have km:=hm6.cell;have kg:=hk6.cell;have c1:=HC6.out.b1.cell;have c2:=HC6.out.b2.cell;have z1:=HC6.out.b1.frozen;have z2:=HC6.out.b2.frozen;clear hk6 hm6;have HFin:=G (HC6.out.put (.int .i64 k) (.int .i64 call) (.int .i64 a0) (.int .i64 a1) (.int .i64 a2) (.slice A nd c) (.int .i64 (used:Int)) (.int .i64 0));have HSl7:=G (HSl6.out.keepP (P:=fun b=>hi<=b) ((((((((((i7 (fun b=>b=W0.heap.size+1\/b=W0.heap.size+1+1) w6).set (p:=⟨W0.heap.size+1,0,none⟩) (fun _=> .inl rfl) (.int .i64 k)).set (p:=⟨W0.heap.size+1,1,none⟩) (fun _=> .inl rfl) (.int .i64 call)).set (p:=⟨W0.heap.size+1,2,none⟩) (fun _=> .inl rfl) (.int .i64 a0)).set (p:=⟨W0.heap.size+1,3,none⟩) (fun _=> .inl rfl) (.int .i64 a1)).set (p:=⟨W0.heap.size+1,4,none⟩) (fun _=> .inl rfl) (.int .i64 a2)).set (p:=⟨W0.heap.size+1,5,none⟩) (fun _=> .inl rfl) (.slice A nd c)).set (p:=⟨W0.heap.size+1,6,none⟩) (fun _=> .inl rfl) (.int .i64 (used:Int))).set (p:=⟨W0.heap.size+1+1,0,none⟩) (fun _=> .inr rfl) (.int .i64 0)).keepP fun b hb _ e=>by omega) hq);go_wp2_with fail;refine⟨rfl,_,rfl, .tuple #[],?_,rfl,rfl,A,c,HFin.out,HSl7.out⟩;simp[results,results47]
end
section
end
section
open Go.RowKit
end
section
open Go.RowKit
def za (o:Oc) (A:Option Addr) (c:Nat):Value:= .agg #[.int .i64 o.kind, .int .i64 o.call, .int .i64 o.a0, .int .i64 o.a1, .int .i64 o.a2, .slice A o.data.length c, .int .i64 (o.used:Int)]
theorem qK {tmps:Array Value} {w W:World} {sv sf y:Value} {mvb:Nat} {X:MX} {o:Oc} {k:Int} {Q:Ending->World->Prop} (h6:tmps.getD 6 undef= .pointer (some ⟨w.heap.size+1,0,none⟩)) (h7:tmps.getD 7 undef= .pointer (some ⟨w.heap.size+1+1,0,none⟩)) (hk:o.kind=k)
  (H:RW w sv sf zO y W) (hm:aO W mvb 122 #[.pointer (some ⟨X.g,0,none⟩)]) (hH:wu X o W) (h1:w.heap.size+1+1<X.g) (h2:X.g≠mvb) (h3:w.heap.size+1+1<mvb) (h4:X.g<X.hi)
  (hR: ∀A c W',au w W'->Sl W' A c o.data->Q (.returned (.tuple #[za o A c, .int .i64 0])) W'):
  Leaves prog Tryz.f17 tmps Q [{target:= .fn (Fn.func 47) #[.pointer (some ⟨mvb,0,none⟩), .pointer (some ⟨w.heap.size+1,0,none⟩), .pointer (some ⟨w.heap.size+1+1,0,none⟩)],args:= #[]}] (.panicking [{v:= .iface 129 (.agg #[.int .i64 k]),recovered:=false}]) W:=by
 subst hk;refine leaves_cons (f:=47) (args:= #[.pointer (some ⟨mvb,0,none⟩), .pointer (some ⟨w.heap.size+1,0,none⟩), .pointer (some ⟨w.heap.size+1+1,0,none⟩)]) (by simp) (by simp[go_sem]) ?_;refine(sD w W _ _ _ mvb X o _ H hm hH h1 h2 h3 h4).mono ?_;rintro e u' w8 ⟨rfl,rfl,A,c,H8,hsl⟩;have d1:=H8.b1.cell;have d2:=H8.b2.cell;unfold CC at d1;rw[aC]at h6 h7;refine(show Leaves _ _ _ _ [] .returning _ from ?_);refine⟨.tuple #[za o A c, .int .i64 0],?_,hR A c _ H8.e hsl⟩;simp[results,results17,go_sem,h6,h7,d1,d2,za]
end
section
def NZ {α:Type} (x:Except Er α):Prop:=match x with
 | .ok _=>True
 | .error e=>e.2≠0
theorem NZ.then {α β:Type} {x:Except Er α} {k:α->Except Er β} (h:NZ x) (hk: ∀a,NZ (k a)):NZ (CR.then x k):=by
 cases x with
 |error e=>exact h
 |ok a=>exact hk a
theorem mA {α:Type} (a:α):NZ (.ok a:Except Er α):=trivial
theorem cV {α:Type} {c:Prop} [Decidable c] {x y:Except Er α} (h:NZ x) (h':NZ y):NZ (if c then x else y):=by split<;>assumption
theorem q8 (g:Gl) (lo:Ls) (s:List UInt8):NZ (gN g lo s):=cV trivial (cV (by show(16:Int)≠0;decide) (by show(15:Int)≠0;decide))
theorem k_ (g:Gl) (lo:Ls) (s:List UInt8):NZ (d9 g lo s):=cV trivial (cV (by show(16:Int)≠0;decide) (by show(15:Int)≠0;decide))
mutual
theorem xp (g:Gl) (lo:Ls): ∀x:Ex,NZ (io g lo x)
 | .mk k op nm tx v a=>by
  rw[io];refine cV (q8 _ _ _) (cV ((k_ _ _ _).then fun _=>uZ g lo a) (cV (by show(16:Int)≠0;decide) (cV ?_ (cV (uZ g lo a) trivial))));split
  ·show(15:Int)≠0;decide
  ·exact cV (AF g lo nm (bD nm) 0 a) (by show(16:Int)≠0;decide)
theorem uZ (g:Gl) (lo:Ls): ∀l:List Ex,NZ (gX g lo l)
 | []=>trivial
 |y::r=>by rw[gX];exact(xp g lo y).then fun _=>uZ g lo r
theorem AF (g:Gl) (lo:Ls) (nm:List UInt8) (b:Bi): ∀(i:Nat) (l:List Ex),NZ (jT g lo nm b i l)
 | _,[]=>trivial
 |i,y::r=>by
  rw[jT];exact(cV (xp g lo y) (cV (by show(16:Int)≠0;decide) (cV (k_ _ _ _) (mA _)))).then fun _=>AF g lo nm b (i+1) r
end
mutual
theorem AE (g:Gl): ∀(x:St) (lo:Ls),NZ (mO g lo x)
 | .mk k nm ex bd el,lo=>by
  rw[mO];exact(cV (q8 _ _ _) (cV (k_ _ _ _) (mA _))).then fun _=>(uZ g lo ex).then fun _=>(cV (cV (by show(9:Int)≠0;decide) (mA _)) (mA _)).then fun lo1=>(mB g bd lo1).then fun lo2=>mB g el lo2
theorem mB (g:Gl): ∀(l:List St) (lo:Ls),NZ (dm g lo l)
 | [],lo=>trivial
 |s::r,lo=>by rw[dm];exact(AE g s lo).then fun lo1=>mB g r lo1
end
theorem ya (g:Gl): ∀(l:List (List UInt8)) (lo:Ls),NZ (im g lo l)
 | [],lo=>trivial
 |s::r,lo=>by rw[im];exact cV (by show(9:Int)≠0;decide) (ya g r _)
theorem sa: ∀(l:List Vr) (g:Gl),NZ (ig g l)
 | [],g=>trivial
 |v::r,g=>by rw[ig];exact cV (by show(9:Int)≠0;decide) (sa r _)
theorem sd: ∀(l:List Fc) (g:Gl),NZ (f8 g l)
 | [],g=>trivial
 |v::r,g=>by rw[f8];exact cV (by show(9:Int)≠0;decide) (sd r _)
theorem yb (g:Gl): ∀(l:List Fc),NZ (fd g l)
 | []=>trivial
 |f::r=>by rw[fd];exact(ya g _ _).then fun lo=>(mB g _ lo).then fun _=>yb g r
theorem uY: ∀(l:List Fc),NZ (cY l)
 | []=>trivial
 |f::r=>by rw[cY];exact cV (by show(6:Int)≠0;decide) (uY r)
theorem ze (p:Pg):NZ (fT p):=by
 unfold fT ji;refine NZ.then ((sa _ _).then fun g=>(sd _ g).then fun g=> ?_) fun g=>(yb g _).then fun _=>uY _;split
 ·show(_:Int)≠0;decide
 ·exact cV (by show(16:Int)≠0;decide) trivial
end
section
open Go.RowKit
theorem tV {P:Program} {w:World} {o:Oper} {a:Act} {K:Act->World->Prop} {Q:Exit->Act->World->Prop} {t e:TypeId} (hT:qp P t e) (s c:Operand) (ho:o.op= .makeSlice t s c)
  (n:Nat) (hn:n<=1073741824) (kl kc:IntKind) (hs:a.eval s= .int kl (n:Int)) (hc:a.eval c= .int kc (n:Int))
  (h: ∀w',Rw w' w.heap.size e (List.replicate n 0)->au w w'->w'.heap.size=w.heap.size+1->K (a.put o.dst (.slice (some ⟨w.heap.size,0,none⟩) n n)) w'):o.wp P a w K Q:=by
 obtain⟨w',hr,h1,h2,h3⟩:=sW (P:=P) hT kl kc n hn w;unfold Oper.wp execOp;simp only[ho,Sem.run_bind,Sem.run_pure,hs,hc,hr,Result.andThen_ok];exact h w' h1 h2 h3
theorem wY {w:World} {P:Nat->Prop} {A:Option Addr} {n c:Nat} {vs:List Vr} (h:fH w P (.slice A n c) vs) (i:Nat) (hi:i<vs.length): ∃b o,A=some ⟨b,o,none⟩/\P b/\b<w.heap.size/\w.cell? ⟨b,o+i*2,none⟩=some (.string (ag vs[i].nm))/\w.cell? ⟨b,o+i*2+1,none⟩=some (.int .i64 vs[i].sz):=by
 obtain⟨A',c',e,h⟩:=h;injection e with e1 e2 e3;subst e1 e2 e3;rcases h with h|⟨_,_,b,o,rfl,hP,hb,hc⟩
 ·subst h;simp at hi
 ·exact⟨b,o,rfl,hP,hb,(hc i hi).1,(hc i hi).2⟩
end
section
open Go.RowKit
end
end Go.Proofs.YtddomeddabfinaaGreatDoor
