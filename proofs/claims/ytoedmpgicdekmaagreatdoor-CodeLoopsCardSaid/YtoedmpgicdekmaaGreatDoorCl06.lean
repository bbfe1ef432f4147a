/- Parts of the proof. -/
import Derived.Test.YtoedmpgicdekmaaGreatDoorCl00
import Derived.LoopN
import Derived.Test.YtoedmpgicdekmaaGreatDoorCl05
set_option maxRecDepth 100000
set_option maxHeartbeats 8000000
set_option linter.unusedVariables false
set_option linter.unusedSimpArgs false
set_option linter.unusedSectionVars false
namespace Go.Proofs.YtoedmpgicdekmaaGreatDoor
open Go.Proofs.Tryz
section
open Go.RowKit
theorem D7 (f:Nat) (al:fB f) (base g d pb:Nat) (nm:List UInt8) (l:List co) (en:Int) (w:World) (C:Option Addr) (n ap:Nat)
  (A:PA w g l en) (K:aM w pb 122 #[.pointer (some ⟨g,0,none⟩)]) (H:aM w d 206 #[.int .i64 5, .string ⟨#[]⟩, .string (ak nm), .string ⟨#[]⟩, .int .i64 0, .slice C n ap])
  (ai:base<=w.heap.size) (aA:g<d) (az:g<pb) (ae:4*l.length+2<=f)
  (q:List co) (V:Int) (af:cv f 1 l= .error (q,V)):
  Calls prog 248 #[.pointer (some ⟨d,0,none⟩), .pointer (some ⟨pb,0,none⟩)] w λe w'=>e=a_ en q V/\Fr base g d w w':=by
 have au:=G A;have ac:=G K;have Z:=G H;have ay:g<w.heap.size:=A.lt;have F:d≠g:=Qa
 have J:pb≠g:=Qa
 clear A K H;go_enter func248,ntmps248;refine kR 6 0 [(3,λv=>v= .agg #[.int .i64 0, .string ⟨#[]⟩, .string ⟨#[]⟩, .string ⟨#[]⟩, .int .i64 0, .slice none 0 0],λ_ _=>False),(5,λv=> ∃R,v= .slice (some ⟨R,0,none⟩) 1 1,λ_ _=>True)] 3 (some g) mixed Qb
  ⟨λ_ _ _ u _=>u,λ_ _ _ u _=>u,trivial⟩ ⟨.inl rfl, .inr λ_ _ _ u _=>u,trivial⟩ ?_
 repeat (refine sx ?_ (λad a=> ?_) ?_;rotate_left;(focus have ao:=(Z.out.grown (aJ a) (λe=>F (ab e))).cell;have an:=(ac.out.grown (aJ a) (λe=>J (ab e))).cell;clear a;go_simp<;>with_reducible rfl);simp only[bA,bx,bw,br,bo])
 refine dD _ _ Qf rfl ⟨_,rfl⟩ rfl (λy z o aq M=> ?_) ?_
 ·clear o;have ah:=al 1 l en y g (au.out.ext z.un) Qd Qd ae;have ar:=G z.un;clear z;go_simp;refine ah.mono ?_;intro e aw I;rw[af]at I;obtain⟨aj,rfl⟩:=I;unfold a_;intro aB ag;exact⟨ag,rfl,dx (am (ar.out.grownBy _) aj) ai (λk e=>by injection e with e;omega)⟩
 rintro _ rfl;simp only[bA,bx,bw,br,bo];repeat (refine sx ?_ (λad a=> ?_) ?_;rotate_left;(focus have ao:=(Z.out.grown (aJ a) (λe=>F (ab e))).cell;have an:=(ac.out.grown (aJ a) (λe=>J (ab e))).cell;clear a;go_simp<;>with_reducible rfl);simp only[bA,bx,bw,br,bo])
 refine cS _ _ Qf rfl ⟨_,0,rfl⟩ Qe (λy a o aq M=> ?_) ?_
 ·clear o;go_simp;exact M _ _ (aa y _) ⟨_,rfl⟩ trivial
 rintro _ ⟨R,rfl⟩;simp only[bA,bx,bw,br,bo];intro av ax o;exact(o _ (.tail _ (.head _))).elim
def tokN (g:Nat) (w:World):Nat:=match w.cell? ⟨g,0,none⟩with
 |some (.slice _ n _)=>n
 | _=>0
theorem PA.tokN {w:World} {g:Nat} {l:List co} {en:Int} (d:PA w g l en):tokN g w=l.length:=by
 obtain⟨h,c,a,_⟩:=d;unfold YtoedmpgicdekmaaGreatDoor.tokN;rw[a.cell];rfl
def JJ (base g px:Nat) (nm:List UInt8) (en:Int) (w:World) (r:PR (List Ex)) (e:Ending) (w':World):Prop:=
 Fr base g px w w'/\match r with
 | .ok (a,q)=>e= .returned (.tuple #[])/\PA w' g q en/\ ∃C n cap,aM w' px 206 #[.int .i64 5, .string ⟨#[]⟩, .string (ak nm), .string ⟨#[]⟩, .int .i64 0, .slice C n cap]/\dL w' (λb=>base<=b) (.slice C n cap) a
 | .error (q,n)=>e=a_ en q n
theorem rJ (f:Nat) (aG: ∀i,i<=f->fB i) (base g y pb:Nat) (nm:List UInt8) (l:List co) (en:Int) (w:World)
  (ai:PA w g l en) (aE:aM w pb 122 #[.pointer (some ⟨g,0,none⟩)]) (aw:aM w y 206 #[.int .i64 5, .string ⟨#[]⟩, .string (ak nm), .string ⟨#[]⟩, .int .i64 0, .slice none 0 0])
  (aD:base<=w.heap.size) (aA:g<y) (az:g<pb) (aS:pb≠y) (aR:y<base) (ax:pb<base) (aU:4*l.length+4<=f+1) (a1:l.length<=100000):
  Calls prog 101 #[.pointer (some ⟨g,0,none⟩), .func (Fn.func 248) #[] #[.pointer (some ⟨y,0,none⟩), .pointer (some ⟨pb,0,none⟩)]] w (JJ base g y nm en w (gq (f+1) l)):=by
 have a5:=G ai;have aX:=G aE;have aJ:=G aw;have H:=G (cT g l en l7 w ai);clear ai aE aw
 cases hrp:dB l7 l with
 |true=>
  rw[hrp]at H;simp only[if_true]at H;have ao:=G (show gq (f+1) l= .ok ([],l.tail)from by rw[gq,if_pos hrp]);go_enter func101,ntmps101;go_wp2_with (go_at_call 97;refine H.out.mono ?_;rintro e aO ⟨rfl,d,a⟩;have ar:=G d;have ae:=G a;clear d a H)
  go_end0
  rw[ao.out];exact⟨dx ae.out aD (λk e=>by injection e with e;omega),rfl,ar.out,_,_,_,aJ.out.grown ae.out (λe=>by injection e with e;omega), .nil _ _⟩
 |false=>
  rw[hrp]at H;simp only[aQ,if_false]at H;have ao:=G (show gq (f+1) l=ie f [] l from by rw[gq,if_neg (by rw[hrp];simp)]);have aT:4*l.length+3<=f:=Qa
  clear aU;go_enter func101,ntmps101;go_wp2_with (go_at_call 97;refine H.out.mono ?_;rintro e aO ⟨rfl,d,a⟩;have ar:=G d;have ae:=G a;clear d a H)
  go_loopw [] (λwr=> ∃(k:Nat) (o:List (Ex×Value)) (r:List co) (C:Option Addr) (n ab:Nat),4*r.length+3<=k/\k<=f/\o.length=n/\n+r.length<=l.length/\Hid (ie k (o.map (·.1)) r=gq (f+1) l)/\Hid (PA wr g r en)/\Hid (aM wr y 206 #[.int .i64 5, .string ⟨#[]⟩, .string (ak nm), .string ⟨#[]⟩, .int .i64 0, .slice C n ab])/\
   Hid (ik wr base 206 (.slice C n ab) o)/\Hid (Fr base g y w wr)) (λwr=>tokN g wr)
  case atStart=>exact⟨f,[],l,none,0,0,aT,ah _,rfl,by omega,G ao.out.symm,ar,G (aJ.out.grown ae.out (λe=>by injection e with e;omega)),G (r5 _ _ _),G (dx ae.out aD (λk e=>by injection e with e;omega))⟩
  case round=>
   obtain⟨k,o,r,C,n,ab,a4,a3,ay,aZ,ag,ap,aI,aW,Z⟩:=hrel;obtain⟨k,rfl⟩: ∃aP,k=aP+1:=⟨k-1,by omega⟩
   have aL:=G (Z.out.blk aX.out ax Qa Qa);have aC:base<=wr.heap.size:=by have:=Z.out.size;omega
   have aB:4*r.length+2<=k:=Qa
   have af:=G (show ie (k+1) (o.map (·.1)) r=(cv k 1 r).then λx q=>if dB l7 q then .ok (o.map (·.1)++[x],q.tail)else(cF AE q).then λ_ q=>ie k (o.map (·.1)++[x]) q from by rw[ie])
   cases he:cv k 1 r with
   |error p=>
    obtain⟨q,aH⟩:=p;have K:=G (show gq (f+1) l= .error (q,aH)from by rw[<-ag.out,af.out,he];rfl);have A:=G (D7 k (aG k Qa) base g y pb nm r en wr C n ab ap.out aL.out aI.out aC aA az aB q aH he);unfold a_ at A;go_wp2_with (go_at_call 248;refine A.out.mono ?_;rintro e V ⟨rfl,u⟩;have z:=G (Z.out.trans u);clear u A);exact⟨rfl,by rw[K.out];exact⟨z.out,rfl⟩⟩
   |ok p=>
    obtain⟨x,q⟩:=p;have a2:=(jR k).1 _ _ _ _ he;have A:=G (Gf k (aG k Qa) base g y pb nm r en wr o C n ab ap.out aL.out aI.out aW.out ay aC aA az aS aR ax aB Qa x q he)
    cases hr2:dB l7 q with
    |true=>
     have K:=G (show gq (f+1) l= .ok (o.map (·.1)++[x],q.tail)from by rw[<-ag.out,af.out,he];show(if dB l7 q then(Except.ok (o.map (·.1)++[x],q.tail):PR (List Ex))else _)=_;rw[if_pos hr2])
     go_wp2_with (first
      |(go_at_call 248;refine A.out.mono ?_;rintro e V ⟨rfl,u,F,au,aj,al,I,J⟩;have z:=G (Z.out.trans u);have M:=G F;have an:=G I;have aq:=G J;clear u A F I J)
      |(go_at_call 97;refine(cT g q en l7 _ M.out).mono ?_;rw[hr2];simp only[if_true];rintro e av ⟨rfl,d,a⟩;have ac:=G d;have R:=G a;clear d a))
     go_end0
     rw[K.out];have aa:base<=V.heap.size:=by have:=z.out.size;omega
     have aV:=aq.out.grown R.out (λk e=>by injection e with e;omega);exact⟨z.out.trans (dx R.out aa (λk e=>by injection e with e;omega)),rfl,ac.out,_,_,_,an.out.grown R.out (λe=>by injection e with e;omega),by have:=aV.rd;simpa using this⟩
    |false=>
     cases hcm:dB AE q with
     |false=>
      have K:=G (show gq (f+1) l= .error (q,3)from by rw[<-ag.out,af.out,he];show(if dB l7 q then(Except.ok (o.map (·.1)++[x],q.tail):PR (List Ex))else _)=_;rw[if_neg (by rw[hr2];simp)];unfold cF;rw[hcm];rfl)
      go_wp2_with (first
       |(go_at_call 248;refine A.out.mono ?_;rintro e V ⟨rfl,u,F,au,aj,al,I,J⟩;have z:=G (Z.out.trans u);have M:=G F;clear u A F I J)
       |(go_at_call 97;refine(cT g q en l7 _ M.out).mono ?_;rw[hr2];simp only[aQ,if_false];rintro e av ⟨rfl,d,a⟩;have ac:=G d;have R:=G a;clear d a M)
       |(go_at_call 99;refine(gX g q en AE _ ac.out hcm).mono ?_;unfold a_;rintro e aN ⟨rfl,aF⟩;have ad:=G (am R.out aF);clear aF))
      have aa:base<=V.heap.size:=by have:=z.out.size;omega
      exact⟨rfl,by rw[K.out];exact⟨z.out.trans (dx ad.out aa (λk e=>by injection e with e;omega)),rfl⟩⟩
     |true=>
      have K:=G (show ie k (o.map (·.1)++[x]) q.tail=gq (f+1) l from by rw[<-ag.out,af.out,he];show _=(if dB l7 q then(Except.ok (o.map (·.1)++[x],q.tail):PR (List Ex))else _);rw[if_neg (by rw[hr2];simp)];unfold cF;rw[hcm];rfl);have aY:=bK hcm
      go_wp2_with (first
       |(go_at_call 248;refine A.out.mono ?_;rintro e V ⟨rfl,u,F,au,aj,al,I,J⟩;have z:=G (Z.out.trans u);have M:=G F;have an:=G I;have aq:=G J;clear u A F I J)
       |(go_at_call 97;refine(cT g q en l7 _ M.out).mono ?_;rw[hr2];simp only[aQ,if_false];rintro e av ⟨rfl,d,a⟩;have ac:=G d;have R:=G a;clear d a M)
       |(go_at_call 99;refine(eW g q en AE _ ac.out hcm).mono ?_;rintro e aN ⟨rfl,d,a⟩;have aK:=G d;have ad:=G (am R.out a);clear d a))
      have aa:base<=V.heap.size:=by have:=z.out.size;omega
      go_roundw
      case rel=>exact⟨k,o++[(x,al)],q.tail,au,n+1,aj,by omega,by omega,by simp[ay],by omega,G (by simpa using K.out),aK,G (an.out.grown ad.out (λe=>by injection e with e;omega)),G (by simpa using aq.out.grown ad.out (λk e=>by injection e with e;omega)),G (z.out.trans (dx ad.out aa (λk e=>by injection e with e;omega)))⟩
      case measure=>rw[ap.out.tokN,aK.out.tokN];omega
theorem s6 {w W:World} {g a:Nat} {en:Int} {q:List co} {H G F A z y:Value} {r:PR Ex} (x:Ex) (k:Int) (so o h:ByteArray) (v:Int) (d:Option Addr) (n c:Nat) (K:r= .ok (x,q)) (Z:x.k=k) (R:ak x.op=so) (V:ak x.nm=o) (J:ak x.tx=h) (I:x.v=v) (M:w.heap.size<=a)
  (ae:aM W a 206 #[H,G,F,A,z,y]) (ad:w.grownBy W (some g)) (ac:PA W g q en) (af:g<w.heap.size) (ab:dL W (λb=>a<b) (.slice d n c) x.args):
  (∀i,(W.setCells a 0 [.int .i64 k, .string so, .string o, .string h, .int .i64 v, .slice d n c]).cell? ⟨a,i,none⟩=(#[.int .i64 k, .string so, .string o, .string h, .int .i64 v, .slice d n c]:Array Value)[i]?)/\
  rn g en w r (.returned (.agg #[.int .i64 k, .string so, .string o, .string h, .int .i64 v, .slice d n c])) (W.setCells a 0 [.int .i64 k, .string so, .string o, .string h, .int .i64 v, .slice d n c]):=by
 subst K Z R V J I;have u:=d_ a [.int .i64 x.k, .string (ak x.op), .string (ak x.nm), .string (ak x.tx), .int .i64 x.v, .slice d n c] 0 W;refine⟨(aM.put6 ae _ _ _ _ _ _).cell,ef ad u M,d,n,c,rfl,ab.keep (.of_grown u λb aa e=>by injection e with e;omega) λb aa _=>by omega,ac.grown u λk e=>by injection e with e;omega⟩
theorem jl (w:World) (p:Value):let W0:=(w.alloc (.cells #[p] 122)).alloc (.cells #[.int .i64 0, .string ⟨#[]⟩, .string ⟨#[]⟩, .string ⟨#[]⟩, .int .i64 0, .slice none 0 0] 206)
  au w W0/\aM W0 w.heap.size 122 #[p]/\aM W0 (w.heap.size+1) 206 #[.int .i64 0, .string ⟨#[]⟩, .string ⟨#[]⟩, .string ⟨#[]⟩, .int .i64 0, .slice none 0 0]:=by
 have a:=aq (w.alloc (.cells #[p] 122)) 206 #[.int .i64 0, .string ⟨#[]⟩, .string ⟨#[]⟩, .string ⟨#[]⟩, .int .i64 0, .slice none 0 0];rw[World.size_alloc]at a;exact⟨(aa w _).alloc' _,(aq w _ _).alloc _,a⟩
theorem wq (f:Nat) (nm:List UInt8) (l:List co) (en:Int) (w:World) (g:Nat) (z:PA w g l en) (J:dB sB l=false) (K:dB n_ l=false):Calls prog 230 #[.pointer (some ⟨g,0,none⟩), .string (ak nm)] w (rn g en w (cX (f+1) nm l)):=by
 have aj:=G (show cX (f+1) nm l= .ok (.mk 3 [] nm [] 0 [],l)from by rw[cX,if_neg (by rw[J];simp),if_neg (by rw[K];simp)]);obtain⟨y,u,V⟩:=jl w (.pointer (some ⟨g,0,none⟩));have ai:=G y;have ah:=G u;have ap:=G V;have ac:=G (z.ext y);have o:=u.cell;have af:=z.lt;have R:w.heap.size≠g:=Qa
 have I:w.heap.size+1≠g:=Qa
 have au:g≠w.heap.size+1:=Qa
 clear z y u V;go_enter func230,ntmps230;go_wp2_with (first|(go_at_call 97;refine(cT g _ en sB _ ac.out).mono ?_;rw[J];simp only[aQ,if_false];rintro e ar ⟨rfl,d,a⟩;have aa:=G d;have ao:=G (am (ai.out.grownBy _) a);have Z:=G (ah.out.grown a (λe=>R (ab e)));have F:=G (ap.out.grown a (λe=>I (ab e)));clear o;have o:=Z.out.cell;have ae:=F.out.cell;have ad:=F.out.frozen;clear d a ac)|(go_at_call 97;refine(cT g _ en n_ _ aa.out).mono ?_;rw[K];simp only[aQ,if_false];rintro e aq ⟨rfl,d,a⟩;have al:=G d;have an:=G (am ao.out a);have ag:=G (Z.out.grown a (λe=>R (ab e)));have A:=G (F.out.grown a (λe=>I (ab e)));clear o;have o:=ag.out.cell;have ae:=A.out.cell;have ad:=A.out.frozen;clear d a aa));obtain⟨H,M⟩:=s6 (.mk 3 [] nm [] 0 []) 3 ⟨#[]⟩ (ak nm) ⟨#[]⟩ 0 none 0 0 aj.out rfl rfl rfl rfl rfl (dX _) A.out an.out al.out af (.nil _ _);simp only[World.setCells,aE,Nat.reduceAdd]at H M;exact bodyPost_ret (v:= .agg #[.int .i64 3, .string ⟨#[]⟩, .string (ak nm), .string ⟨#[]⟩, .int .i64 0, .slice none 0 0]) (by simp[results,results230,go_sem,H]) rfl M
theorem yQ (f:Nat) (nm:List UInt8) (l:List co) (en:Int) (w:World) (g:Nat) (y:PA w g l en) (aa:fB f) (av:4*l.length+1<=f+1) (d:dB sB l=true) (q:List co) (n:Int) (z:cv f 1 l.tail= .error (q,n)):Calls prog 230 #[.pointer (some ⟨g,0,none⟩), .string (ak nm)] w (rn g en w (cX (f+1) nm l)):=by
 have af:=G (show cX (f+1) nm l=(cv f 1 l.tail).then λx r=>(cF vx r).then λ_ r=> .ok (.mk 4 [] nm [] 0 [x],r)from by rw[cX,if_pos d]);have V:4*l.tail.length+2<=f:=by have:=bK d;omega
 have ag:=G (show cX (f+1) nm l= .error (q,n)from by rw[af.out,z];rfl);obtain⟨u,o,I⟩:=jl w (.pointer (some ⟨g,0,none⟩));have ae:=G u;have ad:=G o;have al:=G I;have K:=G (y.ext u);have F:=o.cell;have au:=y.lt;have Z:w.heap.size≠g:=Qa
 have R:w.heap.size+1≠g:=Qa
 have ar:g≠w.heap.size+1:=Qa
 clear y u o I;go_enter func230,ntmps230;go_wp2_with (first|(go_at_call 97;refine(cT g _ en sB _ K.out).mono ?_;rw[d];simp only[if_true];rintro e ao ⟨rfl,J,a⟩;have ah:=G J;have aj:=G (am (ae.out.grownBy _) a);have ac:=G (ad.out.grown a (λe=>Z (ab e)));have M:=G (al.out.grown a (λe=>R (ab e)));clear F;have F:=ac.out.cell;have aq:=M.out.cell;have ap:=M.out.frozen;clear J a K)|(go_at_call 204;refine(aa 1 _ en _ g ah.out Qd Qd V).mono ?_;intro e an A;rw[z]at A;obtain⟨H,rfl⟩:=A;unfold a_;have ai:=G (am aj.out H);clear H));exact⟨rfl,ic ag.out ai.out⟩
theorem yR (f:Nat) (nm:List UInt8) (l:List co) (en:Int) (w:World) (g:Nat) (K:PA w g l en) (ap:fB f) (aL:4*l.length+1<=f+1) (F:dB sB l=true) (x:Ex) (q:List co) (M:cv f 1 l.tail= .ok (x,q)) (R:dB vx q=false):Calls prog 230 #[.pointer (some ⟨g,0,none⟩), .string (ak nm)] w (rn g en w (cX (f+1) nm l)):=by
 have ax:=G (show cX (f+1) nm l=(cv f 1 l.tail).then λx r=>(cF vx r).then λ_ r=> .ok (.mk 4 [] nm [] 0 [x],r)from by rw[cX,if_pos F]);have ao:4*l.tail.length+2<=f:=by have:=bK F;omega
 have ay:=G (show cX (f+1) nm l= .error (q,3)from by rw[ax.out,M];show(cF vx q).then (λ_ r=>(Except.ok (.mk 4 [] nm [] 0 [x],r):PR Ex))=_;unfold cF;rw[R];rfl);obtain⟨I,H,af⟩:=jl w (.pointer (some ⟨g,0,none⟩));have av:=G I;have au:=G H;have aD:=G af;have aj:=G (K.ext I);have u:=H.cell;have aK:=K.lt;have ac:w.heap.size≠g:=Qa
 have V:w.heap.size+1≠g:=Qa
 have aJ:g≠w.heap.size+1:=Qa
 clear K I H af;go_enter func230,ntmps230;go_wp2_with (first|(go_at_call 97;refine(cT g _ en sB _ aj.out).mono ?_;rw[F];simp only[if_true];rintro e al ⟨rfl,ag,y⟩;have ai:=G ag;have aC:=G (am (av.out.grownBy _) y);have ah:=G (au.out.grown y (λe=>ac (ab e)));have z:=G (aD.out.grown y (λe=>V (ab e)));clear u;have u:=ah.out.cell;have aI:=z.out.cell;have aH:=z.out.frozen;clear ag y aj)|(go_at_call 204;refine(ap 1 _ en _ g ai.out Qd Qd ao).mono ?_;intro e d Z;rw[M]at Z;obtain⟨a,A,n,c,rfl,ad,J⟩:=Z;have aG:w.heap.size+2<=al.heap.size:=z.out.lt;have aF:=a.size;have o:=(aa d (.cells #[.int .i64 x.k, .string (ak x.op), .string (ak x.nm), .string (ak x.tx), .int .i64 x.v, .slice A n c] 206)).alloc' (.cells #[.int .i64 4, .string ⟨#[]⟩, .string (ak nm), .string ⟨#[]⟩, .int .i64 0, .slice (some ⟨d.heap.size,0,none⟩) 1 1] 206);have aB:=G (am (am aC.out a) (o.grownBy (some g)));have ar:=G ((ah.out.grown a (λe=>ac (ab e))).ext o);have aO:=G ((z.out.grown a (λe=>V (ab e))).ext o);have aw:=G (aq (d.alloc (.cells #[.int .i64 x.k, .string (ak x.op), .string (ak x.nm), .string (ak x.tx), .int .i64 x.v, .slice A n c] 206)) 206 #[.int .i64 4, .string ⟨#[]⟩, .string (ak nm), .string ⟨#[]⟩, .int .i64 0, .slice (some ⟨d.heap.size,0,none⟩) 1 1]);have ae:=(aq d 206 #[.int .i64 x.k, .string (ak x.op), .string (ak x.nm), .string (ak x.tx), .int .i64 x.v, .slice A n c]).alloc (.cells #[.int .i64 4, .string ⟨#[]⟩, .string (ak nm), .string ⟨#[]⟩, .int .i64 0, .slice (some ⟨d.heap.size,0,none⟩) 1 1] 206);have aN:=G (tH (P:=λb=>w.heap.size+1<b) ae Qa (ad.keep (.of_ext o) (λb aM _=>by omega)));have az:=G (J.ext o);have an:(d.alloc (.cells #[.int .i64 x.k, .string (ak x.op), .string (ak x.nm), .string (ak x.tx), .int .i64 x.v, .slice A n c] 206)).heap.size≠g:=(by have:=J.lt;rw[World.size_alloc];omega);rw[World.size_alloc]at aw an;clear u;have u:=ar.out.cell;clear a ad J o ae ai)|(go_at_call 99;refine(gX g _ en vx _ az.out R).mono ?_;unfold a_;rintro e aE ⟨rfl,a⟩;have aA:=G (am aB.out a);clear a));exact⟨rfl,ic ay.out aA.out⟩
theorem Bq (f:Nat) (nm:List UInt8) (l:List co) (en:Int) (w:World) (g:Nat) (V:PA w g l en) (aB:fB f) (aW:4*l.length+1<=f+1) (I:dB sB l=true) (x:Ex) (q:List co) (ac:cv f 1 l.tail= .ok (x,q)) (af:dB vx q=true):Calls prog 230 #[.pointer (some ⟨g,0,none⟩), .string (ak nm)] w (rn g en w (cX (f+1) nm l)):=by
 have aJ:=G (show cX (f+1) nm l=(cv f 1 l.tail).then λx r=>(cF vx r).then λ_ r=> .ok (.mk 4 [] nm [] 0 [x],r)from by rw[cX,if_pos I]);have aA:4*l.tail.length+2<=f:=by have:=bK I;omega
 have aK:=G (show cX (f+1) nm l= .ok (.mk 4 [] nm [] 0 [x],q.tail)from by rw[aJ.out,ac];show(cF vx q).then (λ_ r=>(Except.ok (.mk 4 [] nm [] 0 [x],r):PR Ex))=_;unfold cF;rw[af];rfl);obtain⟨M,J,ap⟩:=jl w (.pointer (some ⟨g,0,none⟩));have aF:=G M;have aD:=G J;have aQ:=G ap;have ax:=G (V.ext M);have z:=J.cell;have az:=V.lt;have al:w.heap.size≠g:=Qa
 have H:w.heap.size+1≠g:=Qa
 have aV:g≠w.heap.size+1:=Qa
 clear V M J ap;go_enter func230,ntmps230;go_wp2_with (first|(go_at_call 97;refine(cT g _ en sB _ ax.out).mono ?_;rw[I];simp only[if_true];rintro e ay ⟨rfl,y,a⟩;have aw:=G y;have aO:=G (am (aF.out.grownBy _) a);have ar:=G (aD.out.grown a (λe=>al (ab e)));have A:=G (aQ.out.grown a (λe=>H (ab e)));clear z;have z:=ar.out.cell;have ah:=A.out.cell;have ag:=A.out.frozen;clear y a ax)|(go_at_call 204;refine(aB 1 _ en _ g aw.out Qd Qd aA).mono ?_;intro e d ai;rw[ac]at ai;obtain⟨u,F,n,c,rfl,an,R⟩:=ai;have aT:w.heap.size+2<=ay.heap.size:=A.out.lt;have aS:=u.size;have o:=(aa d (.cells #[.int .i64 x.k, .string (ak x.op), .string (ak x.nm), .string (ak x.tx), .int .i64 x.v, .slice F n c] 206)).alloc' (.cells #[.int .i64 4, .string ⟨#[]⟩, .string (ak nm), .string ⟨#[]⟩, .int .i64 0, .slice (some ⟨d.heap.size,0,none⟩) 1 1] 206);have aN:=G (am (am aO.out u) (o.grownBy (some g)));have aC:=G ((ar.out.grown u (λe=>al (ab e))).ext o);have aP:=G ((A.out.grown u (λe=>H (ab e))).ext o);have au:=G (aq (d.alloc (.cells #[.int .i64 x.k, .string (ak x.op), .string (ak x.nm), .string (ak x.tx), .int .i64 x.v, .slice F n c] 206)) 206 #[.int .i64 4, .string ⟨#[]⟩, .string (ak nm), .string ⟨#[]⟩, .int .i64 0, .slice (some ⟨d.heap.size,0,none⟩) 1 1]);have ao:=(aq d 206 #[.int .i64 x.k, .string (ak x.op), .string (ak x.nm), .string (ak x.tx), .int .i64 x.v, .slice F n c]).alloc (.cells #[.int .i64 4, .string ⟨#[]⟩, .string (ak nm), .string ⟨#[]⟩, .int .i64 0, .slice (some ⟨d.heap.size,0,none⟩) 1 1] 206);have aI:=G (tH (P:=λb=>w.heap.size+1<b) ao Qa (an.keep (.of_ext o) (λb K _=>by omega)));have av:=G (R.ext o);have ad:(d.alloc (.cells #[.int .i64 x.k, .string (ak x.op), .string (ak x.nm), .string (ak x.tx), .int .i64 x.v, .slice F n c] 206)).heap.size≠g:=(by have:=R.lt;rw[World.size_alloc];omega);rw[World.size_alloc]at au ad;clear z;have z:=aC.out.cell;clear u an R o ao aw)|(go_at_call 99;refine(eW g _ en vx _ av.out af).mono ?_;rintro e aR ⟨rfl,y,a⟩;have aL:=G y;have aM:=G (am aN.out a);have Z:=G (aP.out.grown a (λe=>H (ab e)));have aG:=G (au.out.grown a (λe=>ad (ab e)));have aH:=G (aI.out.keep (.of_grown a λb K e=>by injection e with e;omega) (λb K _=>K));clear ah ag;have ah:=Z.out.cell;have ag:=Z.out.frozen;have aU:=aG.out.cell;clear y a av));obtain⟨ae,aj⟩:=s6 (.mk 4 [] nm [] 0 [x]) 4 ⟨#[]⟩ (ak nm) ⟨#[]⟩ 0 (some ⟨d.heap.size,0,none⟩) 1 1 aK.out rfl rfl rfl rfl rfl (dX _) Z.out aM.out aL.out az aH.out;simp only[World.setCells,aE,Nat.reduceAdd]at ae aj;exact bodyPost_ret (v:= .agg #[.int .i64 4, .string ⟨#[]⟩, .string (ak nm), .string ⟨#[]⟩, .int .i64 0, .slice (some ⟨d.heap.size,0,none⟩) 1 1]) (by simp[results,results230,go_sem,ae]) rfl aj
theorem Ch (f:Nat) (nm:List UInt8) (l:List co) (en:Int) (w:World) (g:Nat) (I:PA w g l en) (ap: ∀i,i<=f->fB i) (aN:f<=400000) (aO:4*l.length+1<=f+1) (R:dB sB l=false) (z:dB n_ l=true) (q:List co) (n:Int) (K:gq f l.tail= .error (q,n)):Calls prog 230 #[.pointer (some ⟨g,0,none⟩), .string (ak nm)] w (rn g en w (cX (f+1) nm l)):=by
 obtain⟨f,rfl⟩: ∃ar,f=ar+1:=⟨f-1,by have:=bK z;omega⟩
 have ay:=G (show cX (f+1+1) nm l=(gq (f+1) l.tail).then λau r=> .ok (.mk 5 [] nm [] 0 au,r)from by rw[cX,if_neg (by rw[R];simp),if_pos z]);have ao:4*l.tail.length+4<=f+1:=by have:=bK z;omega
 have aJ: ∀(fn:Fn) (first ae:Array Value) (w:World),(Instr.makeFunc fn first ae).run prog w= .ok (.func fn first ae) w:=λ_ _ _ _=>rfl;have az:=G (show cX (f+1+1) nm l= .error (q,n)from by rw[ay.out,K];rfl);obtain⟨H,F,ad⟩:=jl w (.pointer (some ⟨g,0,none⟩));have ax:=G H;have aw:=G F;have aF:=G ad;have aj:=G (I.ext H);have o:=F.cell;have aM:=I.lt;have Z:w.heap.size≠g:=Qa
 have M:w.heap.size+1≠g:=Qa
 have aL:g≠w.heap.size+1:=Qa
 clear I H F ad;go_enter func230,ntmps230;go_wp2_with (first|(go_at_call 97;refine(cT g _ en sB _ aj.out).mono ?_;rw[R];simp only[aQ,if_false];rintro e aH ⟨rfl,u,a⟩;have ai:=G u;have aE:=G (am (ax.out.grownBy _) a);have af:=G (aw.out.grown a (λe=>Z (ab e)));have J:=G (aF.out.grown a (λe=>M (ab e)));clear o;have o:=af.out.cell;have an:=J.out.cell;have al:=J.out.frozen;clear u a aj)|(go_at_call 97;refine(cT g _ en n_ _ ai.out).mono ?_;rw[z];simp only[if_true];rintro e d ⟨rfl,u,a⟩;have ag:=G u;have aD:=G (am aE.out a);have y:=G (af.out.grown a (λe=>Z (ab e)));have A:=G (J.out.grown a (λe=>M (ab e)));clear o;have o:=y.out.cell;have an:=A.out.cell;have al:=A.out.frozen;clear u a ai;have aA:=G (rJ f (λi aK=>ap i Qa) (d.heap.size+1) g d.heap.size w.heap.size nm l.tail en (d.alloc (.cells #[.int .i64 5, .string ⟨#[]⟩, .string (ak nm), .string ⟨#[]⟩, .int .i64 0, .slice none 0 0] 206)) (ag.out.ext (aa d _)) (y.out.alloc _) (aq d _ _) (by rw[World.size_alloc];exact ah _) (by have:=ag.out.lt;omega) Qa (by have:=y.out.lt;omega) Qa (by have:=y.out.lt;omega) ao Qa);have aP:=G (A.out.alloc (.cells #[.int .i64 5, .string ⟨#[]⟩, .string (ak nm), .string ⟨#[]⟩, .int .i64 0, .slice none 0 0] 206));have av:=G (y.out.alloc (.cells #[.int .i64 5, .string ⟨#[]⟩, .string (ak nm), .string ⟨#[]⟩, .int .i64 0, .slice none 0 0] 206));have aI:w.heap.size+2<=d.heap.size:=A.out.lt;have aC:=G (am aD.out ((aa d (.cells #[.int .i64 5, .string ⟨#[]⟩, .string (ak nm), .string ⟨#[]⟩, .int .i64 0, .slice none 0 0] 206)).grownBy (some g)));clear o;have o:=av.out.cell)|(go_at_call 101;refine aA.out.mono ?_;intro e aG V;rw[K]at V;obtain⟨ac,rfl⟩:=V;unfold a_;have aB:=G (ks aC.out ac Qa Qa);clear ac));exact⟨rfl,ic az.out aB.out⟩
theorem EL (f:Nat) (nm:List UInt8) (l:List co) (en:Int) (w:World) (g:Nat) (Z:PA w g l en) (aA: ∀i,i<=f->fB i) (a1:f<=400000) (a2:4*l.length+1<=f+1) (ag:dB sB l=false) (F:dB n_ l=true) (z:List Ex) (q:List co) (ae:gq f l.tail= .ok (z,q)):Calls prog 230 #[.pointer (some ⟨g,0,none⟩), .string (ak nm)] w (rn g en w (cX (f+1) nm l)):=by
 obtain⟨f,rfl⟩: ∃aB,f=aB+1:=⟨f-1,by have:=bK F;omega⟩
 have aI:=G (show cX (f+1+1) nm l=(gq (f+1) l.tail).then λz r=> .ok (.mk 5 [] nm [] 0 z,r)from by rw[cX,if_neg (by rw[ag];simp),if_pos F]);have az:4*l.tail.length+4<=f+1:=by have:=bK F;omega
 have aX: ∀(fn:Fn) (first y:Array Value) (w:World),(Instr.makeFunc fn first y).run prog w= .ok (.func fn first y) w:=λ_ _ _ _=>rfl;have aJ:=G (show cX (f+1+1) nm l= .ok (.mk 5 [] nm [] 0 z,q)from by rw[aI.out,ae];rfl);obtain⟨R,M,ar⟩:=jl w (.pointer (some ⟨g,0,none⟩));have aF:=G R;have aD:=G M;have aS:=G ar;have ax:=G (Z.ext R);have o:=M.cell;have ay:=Z.lt;have al:w.heap.size≠g:=Qa
 have I:w.heap.size+1≠g:=Qa
 have aZ:g≠w.heap.size+1:=Qa
 clear Z R M ar;go_enter func230,ntmps230;go_wp2_with (first|(go_at_call 97;refine(cT g _ en sB _ ax.out).mono ?_;rw[ag];simp only[aQ,if_false];rintro e aU ⟨rfl,u,a⟩;have aw:=G u;have aP:=G (am (aF.out.grownBy _) a);have au:=G (aD.out.grown a (λe=>al (ab e)));have ad:=G (aS.out.grown a (λe=>I (ab e)));clear o;have o:=au.out.cell;have K:=ad.out.cell;have J:=ad.out.frozen;clear u a ax)|(go_at_call 97;refine(cT g _ en n_ _ aw.out).mono ?_;rw[F];simp only[if_true];rintro e d ⟨rfl,u,a⟩;have av:=G u;have aO:=G (am aP.out a);have A:=G (au.out.grown a (λe=>al (ab e)));have H:=G (ad.out.grown a (λe=>I (ab e)));clear o;have o:=A.out.cell;have K:=H.out.cell;have J:=H.out.frozen;clear u a aw;have aL:=G (rJ f (λi aY=>aA i Qa) (d.heap.size+1) g d.heap.size w.heap.size nm l.tail en (d.alloc (.cells #[.int .i64 5, .string ⟨#[]⟩, .string (ak nm), .string ⟨#[]⟩, .int .i64 0, .slice none 0 0] 206)) (av.out.ext (aa d _)) (A.out.alloc _) (aq d _ _) (by rw[World.size_alloc];exact ah _) (by have:=av.out.lt;omega) Qa (by have:=A.out.lt;omega) Qa (by have:=A.out.lt;omega) az Qa);have aR:=G (H.out.alloc (.cells #[.int .i64 5, .string ⟨#[]⟩, .string (ak nm), .string ⟨#[]⟩, .int .i64 0, .slice none 0 0] 206));have aC:=G (A.out.alloc (.cells #[.int .i64 5, .string ⟨#[]⟩, .string (ak nm), .string ⟨#[]⟩, .int .i64 0, .slice none 0 0] 206));have aV:w.heap.size+2<=d.heap.size:=H.out.lt;have aN:=G (am aO.out ((aa d (.cells #[.int .i64 5, .string ⟨#[]⟩, .string (ak nm), .string ⟨#[]⟩, .int .i64 0, .slice none 0 0] 206)).grownBy (some g)));clear o;have o:=aC.out.cell)|(go_at_call 101;refine aL.out.mono ?_;intro e aT ai;rw[ae]at ai;obtain⟨V,rfl,ap,C,n,y,an,ao⟩:=ai;have aM:=G (ks aN.out V Qa Qa);have aK:=G ap;have aH:=G (ao.mono (Q:=λb=>w.heap.size+1<b) (λb a3 _=>by omega));have aG:=G an;have ac:=G (V.blk aR.out Qa I Qa);clear K J;have K:=ac.out.cell;have J:=ac.out.frozen;have aW:=aG.out.cell;clear V ap an ao));obtain⟨af,aj⟩:=s6 (.mk 5 [] nm [] 0 z) 5 ⟨#[]⟩ (ak nm) ⟨#[]⟩ 0 C n y aJ.out rfl rfl rfl rfl rfl (dX _) ac.out aM.out aK.out ay aH.out;simp only[World.setCells,aE,Nat.reduceAdd]at af aj;exact bodyPost_ret (v:= .agg #[.int .i64 5, .string ⟨#[]⟩, .string (ak nm), .string ⟨#[]⟩, .int .i64 0, .slice C n y]) (by simp[results,results230,go_sem,af]) rfl aj
theorem wn (f:Nat) (o:f<=400000) (h: ∀i,i<=f->fB i):jF (f+1):=by
 intro nm l en w g a d
 cases hls:dB sB l with
 |true=>
  cases hx:cv f 1 l.tail with
  |error p=>exact yQ f nm l en w g a (h f (ah _)) d hls p.1 p.2 hx
  |ok p=>
   cases hrs:dB vx p.2 with
   |false=>exact yR f nm l en w g a (h f (ah _)) d hls p.1 p.2 hx hrs
   |true=>exact Bq f nm l en w g a (h f (ah _)) d hls p.1 p.2 hx hrs
 |false=>
  cases hlp:dB n_ l with
  |false=>exact wq f nm l en w g a hls hlp
  |true=>
   cases hx:gq f l.tail with
   |error p=>exact Ch f nm l en w g a h o d hls hlp p.1 p.2 hx
   |ok p=>exact EL f nm l en w g a h o d hls hlp p.1 p.2 hx
theorem yW (f:Nat) (bJ:rX f) (bK: ∀i,i<=f->fB i):fB (f+1):=by
 intro o l en w g A cD cC cb;have aV:=G (aa w (.cells #[.int .i64 0, .string ⟨#[]⟩, .string ⟨#[]⟩, .string ⟨#[]⟩, .int .i64 0, .slice none 0 0] 206));have bX:=G (aq w 206 #[.int .i64 0, .string ⟨#[]⟩, .string ⟨#[]⟩, .string ⟨#[]⟩, .int .i64 0, .slice none 0 0]);have bn:=G (A.ext aV.out);have bF:=A.lt;have a3:w.heap.size≠g:=Qa
 have cG:g≠w.heap.size:=Qa
 have bH:4*l.length+1<=f:=Qa
 have bl:=G (show cv (f+1) o l=(dr f l).then λx r=>i7 f o x r from by rw[cv]);clear A cb;go_enter func204,ntmps204
 cases hp0:dr f l with
 |error p=>
  obtain⟨q,be⟩:=p;have az:=G (show cv (f+1) o l= .error (q,be)from by rw[bl.out,hp0];rfl);go_wp2_with (go_at_call 229;refine(bJ l en _ g bn.out bH).mono ?_;intro e y M;rw[hp0]at M;obtain⟨R,rfl⟩:=M;unfold a_;have aZ:=G (am (aV.out.grownBy _) R);clear R);exact⟨rfl,ic az.out aZ.out⟩
 |ok p=>
  obtain⟨J,bv⟩:=p;have cA:=(jR f).2.2.1 _ _ _ hp0;have bR:=G (show i7 f o J bv=cv (f+1) o l from by rw[bl.out,hp0];rfl);clear bl;go_wp2_with (go_at_call 229;refine(bJ l en _ g bn.out bH).mono ?_;intro e y M;rw[hp0]at M;obtain⟨R,bt,a1,bf,rfl,aT,aI⟩:=M;have b6:=R.size;rw[World.size_alloc]at b6;have z:=aa y (.cells #[.int .i64 J.k, .string (ak J.op), .string (ak J.nm), .string (ak J.tx), .int .i64 J.v, .slice bt a1 bf] 206);have aZ:=G (am (am (aV.out.grownBy (some g)) R) (z.grownBy (some g)));have bW:=G ((bX.out.grown R (λe=>a3 (ab e))).ext z);have bN:=G (aq y 206 #[.int .i64 J.k, .string (ak J.op), .string (ak J.nm), .string (ak J.tx), .int .i64 J.v, .slice bt a1 bf]);have bQ:=G (aT.keep (.of_ext z) (Q:=λb=>w.heap.size<b/\b≠y.heap.size) (λb a bD=>⟨by rw[World.size_alloc]at a;omega,by omega⟩));have bT:=G (aI.ext z);have aC:y.heap.size≠g:=(by have:=aI.lt;omega);clear R aT aI z);have b9:w.heap.size<y.heap.size:=Qa
  have b8:w.heap.size≠y.heap.size:=Qa
  have cB:y.heap.size≠w.heap.size:=Qa
  have cF:g≠y.heap.size:=λe=>aC e.symm;clear aV bX bn
  go_loopw [] (λwr=> ∃(k:Nat) (x:Ex) (F:Option Addr) (n c:Nat) (r:List co),4*r.length+1<=k/\k<=f/\Hid (i7 k o x r=cv (f+1) o l)/\Hid (PA wr g r en)/\Hid (aM wr y.heap.size 206 #[.int .i64 x.k, .string (ak x.op), .string (ak x.nm), .string (ak x.tx), .int .i64 x.v, .slice F n c])/\Hid (dL wr (λb=>w.heap.size<b/\b≠y.heap.size) (.slice F n c) x.args)/\Hid (aM wr w.heap.size 206 #[.int .i64 0, .string ⟨#[]⟩, .string ⟨#[]⟩, .string ⟨#[]⟩, .int .i64 0, .slice none 0 0])/\Hid (w.grownBy wr (some g))) (λwr=>tokN g wr)
  case atStart=>exact⟨f,J,bt,a1,bf,bv,by omega,ah _,bR,bT,bN,bQ,bW,aZ⟩
  case round=>
   clear bR bT bN bQ bW aZ;obtain⟨k,x,F,n,c,r,ca,cE,aY,aA,bh,bk,bq,bp⟩:=hrel;obtain⟨k,rfl⟩: ∃b5,k=b5+1:=⟨k-1,by omega⟩
   have ad:=G (eY g r en wr aA.out);have aX:=G (show i7 (k+1) o x r=if(cV r).k=5/\o<=my (cV r).t then(cv k (my (cV r).t+1) r.tail).then λu q=>i7 k o (.mk 7 (cV r).t [] [] 0 [x,u]) q else .ok (x,r)from by rw[i7]);by_cases hgo:(cV r).k=5/\o<=my (cV r).t
   rotate_left
   ·have az:=G (show cv (f+1) o l= .ok (x,r)from by rw[<-aY.out,aX.out,if_neg hgo]);clear aX aY;generalize cV r=t at*;obtain⟨Z,tt,af,ai⟩:=t;simp only at hgo ad;have an:=G (ma tt);generalize my tt=L at*;by_cases al:Z=5
    ·have bD:L<o:=Qa
     obtain rfl:Z=5:=al;clear hgo;go_wp2_with (first|(go_at_call 158;refine ad.out.mono ?_;rintro e ao ⟨rfl,z⟩;have bB:=dm z;have d:=z.alloc' (.cells #[.int .i64 5, .string (ak tt), .int .i64 af, .int .i64 ai] 188);have aN:=G (am bp.out (d.grownBy (some g)));have V:=G (bq.out.ext d);have ay:=G (bh.out.ext d);have bj:=G (aq ao 188 #[.int .i64 5, .string (ak tt), .int .i64 af, .int .i64 ai]);have aK:=G (bk.out.keep (.of_ext d) (λ_ a _=>a));have aL:=G (aA.out.ext d);have aQ:=ay.out.cell;have a5:=V.out.cell;have a4:=V.out.frozen;clear z d ad)|(go_at_call 167;refine(an.out _).mono ?_;rintro e bu ⟨rfl,rfl⟩;clear an));obtain⟨aD,aF⟩:=lM x x.k (ak x.op) (ak x.nm) (ak x.tx) x.v F n c az.out rfl rfl rfl rfl rfl rfl V.out aN.out aL.out bF (aK.out.mono λb a _=>by omega);simp only[World.setCells,aE,Nat.reduceAdd]at aD aF;change bodyPost prog Tryz.f204 _ Exit.ret _ _;exact bodyPost_ret (v:= .agg #[.int .i64 x.k, .string (ak x.op), .string (ak x.nm), .string (ak x.tx), .int .i64 x.v, .slice F n c]) (by simp[results,results204,go_sem,aD]) rfl aF
    ·have cf:(Z==5)=false:=Qn.2 al;have cI:(Z !=5)=true:=by rw[bne,cf];rfl
     clear hgo;go_wp2_with (first|(go_at_call 158;refine ad.out.mono ?_;rintro e ao ⟨rfl,z⟩;have bB:=dm z;have d:=z.alloc' (.cells #[.int .i64 Z, .string (ak tt), .int .i64 af, .int .i64 ai] 188);have aN:=G (am bp.out (d.grownBy (some g)));have V:=G (bq.out.ext d);have ay:=G (bh.out.ext d);have bj:=G (aq ao 188 #[.int .i64 Z, .string (ak tt), .int .i64 af, .int .i64 ai]);have aK:=G (bk.out.keep (.of_ext d) (λ_ a _=>a));have aL:=G (aA.out.ext d);have aQ:=ay.out.cell;have a5:=V.out.cell;have a4:=V.out.frozen;clear z d ad)|(go_at_call 167;refine(an.out _).mono ?_;rintro e bu ⟨rfl,rfl⟩;clear an));obtain⟨aD,aF⟩:=lM x x.k (ak x.op) (ak x.nm) (ak x.tx) x.v F n c az.out rfl rfl rfl rfl rfl rfl V.out aN.out aL.out bF (aK.out.mono λb a _=>by omega);simp only[World.setCells,aE,Nat.reduceAdd]at aD aF;change bodyPost prog Tryz.f204 _ Exit.ret _ _;exact bodyPost_ret (v:= .agg #[.int .i64 x.k, .string (ak x.op), .string (ak x.nm), .string (ak x.tx), .int .i64 x.v, .slice F n c]) (by simp[results,results204,go_sem,aD]) rfl aF
   ·obtain⟨al,bE⟩:=hgo;obtain⟨⟨Z,tt,af,ai⟩,q,rfl⟩:=nG al Qd;have bP:=G (show cv (f+1) o l=(cv k (my tt+1) q).then λu r=>i7 k o (.mk 7 tt [] [] 0 [x,u]) r from by rw[<-aY.out,aX.out,if_pos ⟨al,bE⟩];rfl);clear aX aY;simp only[cV]at al bE ad;obtain rfl:Z=5:=al;have an:=G (ma tt);have cJ:=F5 tt;have bG:4*q.length+2<=k:=by simp only[ag]at ca;omega
    generalize cg:my tt=L at*;have bD: ¬L<o:=Qa
    have cw:wrap64 (L+1)=L+1:=by simp only[wrap64];omega
    have cu:IntKind.i64.wrap (L+1)=L+1:=Qc
    clear cg;go_wp2_with (first|(go_at_call 158;refine ad.out.mono ?_;rintro e ao ⟨rfl,z⟩;have bB:=dm z;have d:=z.alloc' (.cells #[.int .i64 5, .string (ak tt), .int .i64 af, .int .i64 ai] 188);have aN:=G (am bp.out (d.grownBy (some g)));have V:=G (bq.out.ext d);have ay:=G (bh.out.ext d);have bj:=G (aq ao 188 #[.int .i64 5, .string (ak tt), .int .i64 af, .int .i64 ai]);have aK:=G (bk.out.keep (.of_ext d) (λ_ a _=>a));have aL:=G (aA.out.ext d);have aQ:=ay.out.cell;have a5:=V.out.cell;have a4:=V.out.frozen;clear z d ad;obtain⟨cN,cK,a,aR,a6⟩:=aL.out;obtain⟨b,off,rfl,a7,_⟩:=aR.at_ 0 Qe;have ce:=a.cell;have cd:=a.frozen)|(go_at_call 167;refine(an.out _).mono ?_;rintro e bu ⟨rfl,rfl⟩;clear an));all_goals
     first|have bC:=PA.next_a a aR (a6 b off rfl Qe) a7 (by assumption)|have bC:=PA.next_b a aR (a6 b off rfl Qe) a7 (by assumption)
     obtain⟨bM,av⟩:=bC;have a2:ao.heap.size≠g:=by have:=aA.out.lt;omega
     have bU:=G (am aN.out av);have bV:=G (V.out.grown av (λe=>a3 (ab e)));have aW:=G (ay.out.grown av (λe=>aC (ab e)));have bO:=G (bj.out.grown av (λe=>a2 (ab e)));have cm:=G (aK.out.keep (.of_grown av λb a e=>by injection e with e;omega) (λb a _=>a));have bm:=G bM;clear a aR a6 a7 ce cd aQ a5 a4 av bM;generalize World.setCell _ _ _=aP at*;have cH:g<aP.heap.size:=bm.out.lt;have cs:w.heap.size<aP.heap.size:=bV.out.lt;have cy:y.heap.size<aP.heap.size:=aW.out.lt
     cases hpe:cv k (L+1) q with
     |error p=>
      obtain⟨aB,be⟩:=p;have az:=G (show cv (f+1) o l= .error (aB,be)from by rw[bP.out,hpe];rfl);refine cM 9 7 [(6,λv=>v= .agg #[.int .i64 0, .string ⟨#[]⟩, .string ⟨#[]⟩, .string ⟨#[]⟩, .int .i64 0, .slice none 0 0],λ_ _=>False),(7,λv=> ∃ac,v= .slice (some ⟨ac,0,none⟩) 2 2,λ_ _=>True)] 6 (some g) mixed Qb ⟨λ_ _ _ A _=>A,λ_ _ _ A _=>A,trivial⟩ ⟨.inl rfl, .inr λ_ _ _ A _=>A,trivial⟩ ?_;repeat (refine sx ?_ (λy I=> ?_) ?_;rotate_left;(focus have ci:=(bO.out.grown (aJ I) (λe=>a2 (ab e))).cell;have ch:=(aW.out.grown (aJ I) (λe=>aC (ab e))).cell;clear I;go_simp<;>with_reducible rfl);simp only[bA,bx,bw,br,bo])
      refine dD _ _ Qf rfl ⟨_,rfl⟩ rfl (λK aj H bg au=> ?_) ?_
      ·clear H;have a8:=bK k Qa (L+1) q en K g (bm.out.ext aj.un) Qa Qa bG;have bi:=G aj.un;clear aj;go_simp;refine a8.mono ?_;intro e b4 M;rw[hpe]at M;obtain⟨R,rfl⟩:=M;unfold a_;intro cL cc;exact⟨cc,ic az.out (am bU.out (am (bi.out.grownBy _) R))⟩
      rintro _ rfl;simp only[bA,bx,bw,br,bo];refine cS _ _ Qf rfl ⟨_,0,rfl⟩ Qe (λK I H bg au=> ?_) ?_
      ·clear H;go_simp;exact au _ _ (aa K _) ⟨_,rfl⟩ trivial
      rintro _ ⟨ac,rfl⟩;simp only[bA,bx,bw,br,bo];repeat (refine sx ?_ (λy I=> ?_) ?_;rotate_left;(focus go_simp<;>with_reducible rfl);simp only[bA,bx,bw,br,bo])
      intro K ct H;exact(H _ (.tail _ (.head _))).elim
     |ok p=>
      obtain⟨u,aB⟩:=p;have cz:=(jR k).1 _ _ _ _ hpe;have ck:=G (show i7 k o (.mk 7 tt [] [] 0 [x,u]) aB=cv (f+1) o l from by rw[bP.out,hpe];rfl)
      refine cM 9 7 [(6,λv=> ∃F n c,v= .agg #[.int .i64 u.k, .string (ak u.op), .string (ak u.nm), .string (ak u.tx), .int .i64 u.v, .slice F n c],λv aO=> ∀F n c,v= .agg #[.int .i64 u.k, .string (ak u.op), .string (ak u.nm), .string (ak u.tx), .int .i64 u.v, .slice F n c]->dL aO (λb=>aP.heap.size<=b) (.slice F n c) u.args/\PA aO g aB en),
        (7,λv=> ∃ac,v= .slice (some ⟨ac,0,none⟩) 2 2,λv aO=>dL aO (λb=>w.heap.size<b/\b≠y.heap.size) v [x,u])] 6 (some g) mixed Qb
       ⟨λ_ _ _ A ap F n c e=>⟨(A F n c e).1.keep (.of_ext ap) (λ_ a _=>a),(A F n c e).2.ext ap⟩,λ_ _ _ A ap=>A.keep (.of_ext ap) (λ_ a _=>a),trivial⟩
       ⟨.inl rfl, .inr λ_ _ _ A ap=>A.keep (.of_grown ap λb a e=>by injection e with e;omega) (λ_ a _=>a),trivial⟩ ?_
      repeat (refine sx ?_ (λy I=> ?_) ?_;rotate_left;(focus have ci:=(bO.out.grown (aJ I) (λe=>a2 (ab e))).cell;have ch:=(aW.out.grown (aJ I) (λe=>aC (ab e))).cell;clear I;go_simp<;>with_reducible rfl);simp only[bA,bx,bw,br,bo])
      refine dD _ _ Qf rfl ⟨_,none,0,0,rfl⟩ rfl (λK aj H bg au=> ?_) ?_
      ·clear H;have a8:=bK k Qa (L+1) q en K g (bm.out.ext aj.un) Qa Qa bG;have bi:=G aj.un;clear aj;go_simp;refine a8.mono ?_;intro e b4 M;rw[hpe]at M;obtain⟨R,F,n,c,rfl,aT,aI⟩:=M;exact au _ _ R ⟨_,_,_,rfl⟩ (λcO cq c' e=>by injection e with e;simp only[fX,dM,eR,and_true,true_and]at e;obtain⟨rfl,rfl,rfl⟩:=e;exact⟨aT.mono (λb a _=>ax (dm bi.out) a),aI⟩)
      rintro _ ⟨bY,bz,c2,rfl⟩;simp only[bA,bx,bw,br,bo];refine cS _ _ Qf rfl ⟨_,0,rfl⟩ Qe (λK I H bg au=> ?_) ?_
      ·have aU:=(H _ (.head _) Qb) bY bz c2 rfl;have bI:=aJ I;have cr:=bI.size;have b7:=cm.out.keep (.of_grown bI λb a e=>by injection e with e;omega) (λb a _=>a);clear H I;go_simp;exact au _ _ (aa K _) ⟨_,rfl⟩ (dL.two (aq K _ _) ⟨by omega,by omega⟩ (b7.keep (.of_ext (aa K _)) (λ_ a _=>a)) (aU.1.keep (.of_ext (aa K _)) (λb a _=>⟨by omega,by omega⟩)))
      rintro _ ⟨ac,rfl⟩;simp only[bA,bx,bw,br,bo];repeat (refine sx ?_ (λy I=> ?_) ?_;rotate_left;(focus go_simp<;>with_reducible rfl);simp only[bA,bx,bw,br,bo])
      intro bZ ar H;have bL:=H _ (.head _);have aU:=(H _ (.tail _ (.head _)) bY bz c2 rfl).2;clear H;simp only[ae,aw];have ar:=aJ ar;have aS:=aW.out.grown ar (λe=>aC (ab e));have aG:=d_ y.heap.size [.int .i64 7, .string (ak tt), .string ⟨#[]⟩, .string ⟨#[]⟩, .int .i64 0, .slice (some ⟨ac,0,none⟩) 2 2] 0 bZ;have bc:=ef (am bU.out ar) aG (aH b9);have a9:=aM.put6 aS (.int .i64 7) (.string (ak tt)) (.string ⟨#[]⟩) (.string ⟨#[]⟩) (.int .i64 0) (.slice (some ⟨ac,0,none⟩) 2 2);have bd:=(bV.out.grown ar (λe=>a3 (ab e))).grown aG (λe=>b8 (ab e));have ba:=bL.keep (.of_grown aG λb a e=>a.2 (ab e)) (λb a _=>a);have bb:=aU.grown aG (λk e=>by injection e with e;omega);simp only[World.setCells,aE,Nat.reduceAdd]at bc a9 bd ba bb;have aQ:=aS.cell;have cx:=aS.frozen;have cn:=G bc;have cj:=G a9;have cp:=G bd;have cl:=G ba;have bS:=G bb;clear ar aS aG bc a9 bd ba bb bL aU;go_wp2_with fail;go_roundw
      case rel=>exact⟨k, .mk 7 tt [] [] 0 [x,u],some ⟨ac,0,none⟩,2,2,aB,by omega,by omega,ck,bS,cj,cl,cp,cn⟩
      case measure=>rw[aA.out.tokN,bS.out.tokN];simp only[ag];omega
theorem qw: ∀(f:Nat),f<=400000->(∀i,i<=f->fB i)/\rX f/\jF f
 |0,_=>by
  refine⟨λi u=> ?_,?_,?_⟩
  ·obtain rfl:i=0:=Qa
   intro n l en w g a _ _ h;omega
  ·intro l en w g a h;omega
  ·intro nm l en w g a h;omega
 |f+1,h=>by
  obtain⟨d,o,z⟩:=qw f Qa;have y:=yW f o d
  exact⟨λi u=>by
   rcases eS f i with a|a
   ·obtain rfl:i=f+1:=Qa
    exact y
   ·exact d i a,yC f (d f (ah _)) o z,wn f Qa d⟩
theorem Bx {f:Nat} (a:f<=400000):fB f:=(qw f a).1 f (ah _)
theorem yK {f:Nat} (a:f<=400000):jF f:=(qw f a).2.2
def zy (g:Nat) (en:Int) (w:World) (r:PR St) (e:Ending) (w':World):Prop:=
 w.grownBy w' (some g)/\match r with
 | .ok (s,q)=> ∃A n c B m d C k i,e= .returned (.agg #[.int .i64 s.k, .string (ak s.nm), .slice A n c, .slice B m d, .slice C k i])/\
   SV.ok w' (λb=>w.heap.size<=b) ⟨s, .slice A n c, .slice B m d, .slice C k i⟩/\PA w' g q en
 | .error (q,n)=>e=a_ en q n
def Iw (g:Nat) (en:Int) (w:World) (r:PR (List St)) (e:Ending) (w':World):Prop:=
 w.grownBy w' (some g)/\match r with
 | .ok (b,q)=> ∃A n c,e= .returned (.slice A n c)/\ed w' (λb=>w.heap.size<=b) (.slice A n c) b/\PA w' g q en
 | .error (q,n)=>e=a_ en q n
theorem dI {g:Nat} {en:Int} {w w':World} {r:PR St} {q:List co} {n:Int} (a:r= .error (q,n)) (d:w.grownBy w' (some g)):zy g en w r (a_ en q n) w':=by
 subst a;exact⟨d,rfl⟩
theorem xt {g:Nat} {en:Int} {w w':World} {r:PR (List St)} {q:List co} {n:Int} (a:r= .error (q,n)) (d:w.grownBy w' (some g)):Iw g en w r (a_ en q n) w':=by
 subst a;exact⟨d,rfl⟩
def mZ (f:Nat):Prop:= ∀(l:List co) (en:Int) (w:World) (g:Nat),PA w g l en->4*l.length+1<=f->Calls prog 103 #[.pointer (some ⟨g,0,none⟩)] w (Iw g en w (d9 f l))
def G2 (f:Nat):Prop:= ∀(l:List co) (en:Int) (w:World) (g:Nat),PA w g l en->4*l.length+3<=f->Calls prog 203 #[.pointer (some ⟨g,0,none⟩)] w (zy g en w (pN f l))
def Cz (f:Nat):Prop:= ∀(l:List co) (en:Int) (w:World) (g:Nat),PA w g l en->4*l.length+3<=f->Calls prog 160 #[.pointer (some ⟨g,0,none⟩)] w (zy g en w (d7 f l))
theorem JU:mY prog 78 147 5 96 (.agg #[.int .i64 0, .string ⟨#[]⟩, .slice none 0 0, .slice none 0 0, .slice none 0 0]):=⟨underlying78,by kernel_rfl,by rfl,by decide⟩
theorem Da (s:St) (o B C:Option Addr) (n m k c h i:Nat): ∀a∈zC ⟨s, .slice o n c, .slice B m h, .slice C k i⟩,a.oneCell'=true:=by
 intro a d;simp only[zC,bT,bB,or_false]at d;rcases d with rfl|rfl|rfl|rfl|rfl<;>rfl
theorem wT (f:Nat) (a9:f<=400000) (aI: ∀i,i<=f->Cz i):mZ (f+1):=by
 intro l en w g an ba;have au:=G an;have a8:=an.lt;have ar:=G (show d9 (f+1) l=(cF Hr l).then λ_ r=>fh f [] r from by rw[d9]);clear an;go_enter func103,ntmps103
 cases hlb:dB Hr l with
 |false=>
  have A:=G (show d9 (f+1) l= .error (l,3)from by rw[ar.out];unfold cF;rw[hlb];rfl);go_wp2_with (go_at_call 99;refine(gX g _ en Hr _ au.out hlb).mono ?_;unfold a_;rintro e aP ⟨rfl,u⟩;have af:=G u;clear u);exact⟨rfl,xt A.out af.out⟩
 |true=>
  have A:=G (show fh f [] l.tail=d9 (f+1) l from by rw[ar.out];unfold cF;rw[hlb];rfl);have a6:=bK hlb;go_wp2_with (go_at_call 99;refine(eW g _ en Hr _ au.out hlb).mono ?_;rintro e aP ⟨rfl,o,a⟩;have aM:=G o;have af:=G a;clear o a);clear ar au
  go_loopw [3] (λaz wr=> ∃(k:Nat) (d:List SV) (r:List co) (C:Option Addr) (n ad:Nat),az= .slice C n ad/\d.length=n/\4*r.length+4<=k/\k<=f/\n+r.length<=l.length/\Hid (fh k (d.map (·.s)) r=d9 (f+1) l)/\Hid (PA wr g r en)/\
   Hid (jD wr w.heap.size 147 (.slice C n ad) d)/\Hid (w.grownBy wr (some g))) (λaz wr=>tokN g wr)
  case atStart=>exact⟨f,[],l.tail,none,0,0,rfl,rfl,by omega,ah _,by simp only[List.length_tail];omega,A,aM,G (jD.nil_ _ _ _),af⟩
  case round=>
   clear A aM af;obtain⟨k,d,r,C,n,ad,rfl,ac,aE,a7,a5,ap,J,av,aw⟩:=hrel;obtain⟨k,rfl⟩: ∃aR,k=aR+1:=⟨k-1,by omega⟩
   have ao:=G (show fh (k+1) (d.map (·.s)) r=if dB G6 r then .ok (d.map (·.s),r.tail)else(d7 k r).then λs q=>fh k (d.map (·.s)++[s]) q from by rw[fh])
   cases hrb:dB G6 r with
   |true=>
    have A:=G (show d9 (f+1) l= .ok (d.map (·.s),r.tail)from by rw[<-ap.out,ao.out,if_pos hrb]);go_wp2_with (go_at_call 97;refine(cT g r en G6 _ J.out).mono ?_;rw[hrb];simp only[if_true];rintro e ay ⟨rfl,o,a⟩;have K:=G o;have F:=G (am aw.out a);have M:=G (av.out.grown a (λk e=>by injection e with e;omega));clear o a);go_ret;rw[A.out];exact⟨F.out,_,_,_,rfl,M.out.rd,K.out⟩
   |false=>
    have aK:=G (show d9 (f+1) l=(d7 k r).then λs q=>fh k (d.map (·.s)++[s]) q from by rw[<-ap.out,ao.out,if_neg (by rw[hrb];simp)]);have aG:4*r.length+3<=k:=Qa
    clear ap ao
    cases hps:d7 k r with
    |error p=>
     obtain⟨q,aT⟩:=p;have A:=G (show d9 (f+1) l= .error (q,aT)from by rw[aK.out,hps];rfl)
     go_wp2_with (first
      |(go_at_call 97;refine(cT g r en G6 _ J.out).mono ?_;rw[hrb];simp only[aQ,if_false];rintro e ay ⟨rfl,o,a⟩;have K:=G o;have F:=G (am aw.out a);clear o a J)
      |(go_at_call 160;refine(aI k Qa r en _ g K.out aG).mono ?_;intro e R H;rw[hps]at H;obtain⟨u,rfl⟩:=H;unfold a_;have y:=G (am F.out u);clear u))
     exact⟨rfl,xt A.out y.out⟩
    |ok p=>
     obtain⟨s,q⟩:=p;have a4:=(pK k).2.2.2 _ _ _ hps;have aV:=G (show fh k (d.map (·.s)++[s]) q=d9 (f+1) l from by rw[aK.out,hps];rfl)
     go_wp2_with (first
      |(go_at_call 97;refine(cT g r en G6 _ J.out).mono ?_;rw[hrb];simp only[aQ,if_false];rintro e ay ⟨rfl,o,a⟩;have K:=G o;have F:=G (am aw.out a);have M:=G (av.out.grown a (λk e=>by injection e with e;omega));clear o a av)
      |(go_at_call 160;refine(aI k Qa r en _ g K.out aG).mono ?_;intro e R H;rw[hps]at H;obtain⟨u,aj,ab,c1,ai,Z,c2,ag,V,ae,rfl,aH,aJ⟩:=H;have I:=aa R (.cells #[.int .i64 s.k, .string (ak s.nm), .slice aj ab c1, .slice ai Z c2, .slice ag V ae] 147);have a3:=F.out.size;have a2:=u.size;have y:=G (am (am F.out u) (I.grownBy (some g)));have aN:=G ((M.out.grown u (λk e=>by injection e with e;omega)).ext I);have al:=World.ownsRow.lt M.out.1;have aU:=G (aH.keep (.of_ext I) (Q:=λb=>w.heap.size<=b/\some b≠Value.ownBlock (.slice C n ad)) (λb bb _=>⟨by omega,λe=>by have:=(al b e.symm).2;omega⟩));have aW:=G (aJ.ext I);have aY:=G (aq R 147 #[.int .i64 s.k, .string (ak s.nm), .slice aj ab c1, .slice ai Z c2, .slice ag V ae]);have aB:=λk aE=>(al k aE).1;clear u aH aJ I al M)
      |(at_builtin;refine eV JU rfl _ _ rfl w.heap.size _ n (eX d) rfl (by have:=aN.out.1;rw[ac]at this;exact this) R.heap.size (zC ⟨s, .slice aj ab c1, .slice ai Z c2, .slice ag V ae⟩) rfl aY.out rfl (Da _ _ _ _ _ _ _ _ _ _) Qa Qd y.out.size ?_;intro a1 cap' aO aD z aC;have aX:=G (aN.out.snoc aU.out (by rw[ac];exact aD) z aC);have aZ:=G (show w.grownBy aO (some g)from⟨z.os.trans y.out.os,z.tape.trans y.out.tape,z.output.trans y.out.output,ax y.out.size z.size,λi aF aS=>(z.block i (aA aF y.out.size) (λe=>by have:=aB i e.symm;omega)).trans (y.out.block i aF aS)⟩);have aL:=G (aW.out.grown z (λk e=>by have:=aB k e;omega));clear aD z aC))
     go_roundw
     case rel=>exact⟨k,d++[⟨s, .slice aj ab c1, .slice ai Z c2, .slice ag V ae⟩],q,some ⟨a1,0,none⟩,n+1,cap',rfl,by simp[ac],by omega,by omega,by omega,G (by simpa using aV.out),aL,G (by have:=aX.out;rw[ac]at this;exact this),aZ⟩
     case measure=>rw[J.out.tokN,aL.out.tokN];omega
theorem ed.one {w:World} {P:Nat->Prop} {h:Nat} {e:TypeId} {s:St} {u b c:Value} (d:aM w h e #[.int .i64 s.k, .string (ak s.nm),u,b,c]) (y:P h) (o:SV.ok w P ⟨s,u,b,c⟩):ed w P (.slice (some ⟨h,0,none⟩) 1 1) [s]:=by
 refine .row h 0 1 1 [s] (λ_=>u) (λ_=>b) (λ_=>c) y d.lt rfl (ah _) (by simp[maxLen]) (λi a=> ?_) (λi a=> ?_) (λi a=> ?_) (λi a=> ?_);all_goals
  have a:i=0:=by simpa using a
  subst a
 ·exact⟨d.cell 0,d.cell 1,d.cell 2,d.cell 3,d.cell 4⟩
 ·exact o.1
 ·exact o.2.1
 ·exact o.2.2
theorem F_ {w W:World} {g a:Nat} {en:Int} {q:List co} {H G F A z:Value} {r:PR St} (s:St) (k:Int) (o:ByteArray) (h:Option Addr) (n c:Nat) (B:Option Addr) (m d:Nat) (C:Option Addr) (i j:Nat) (I:r= .ok (s,q)) (M:s.k=k) (K:ak s.nm=o) (J:w.heap.size<=a)
  (ab:aM W a 147 #[H,G,F,A,z]) (aa:w.grownBy W (some g)) (Z:PA W g q en) (ac:g<w.heap.size) (V:SV.ok W (λb=>a<b) ⟨s, .slice h n c, .slice B m d, .slice C i j⟩):
  (∀y,(W.setCells a 0 [.int .i64 k, .string o, .slice h n c, .slice B m d, .slice C i j]).cell? ⟨a,y,none⟩=(#[.int .i64 k, .string o, .slice h n c, .slice B m d, .slice C i j]:Array Value)[y]?)/\
  zy g en w r (.returned (.agg #[.int .i64 k, .string o, .slice h n c, .slice B m d, .slice C i j])) (W.setCells a 0 [.int .i64 k, .string o, .slice h n c, .slice B m d, .slice C i j]):=by
 subst I M K;have u:=d_ a [.int .i64 s.k, .string (ak s.nm), .slice h n c, .slice B m d, .slice C i j] 0 W;refine⟨(aM.put5' ab _ _ _ _ _).cell,ef aa u J,h,n,c,B,m,d,C,i,j,rfl,V.keep (.of_grown u λb R e=>by injection e with e;omega) λb R _=>by omega,Z.grown u λk e=>by injection e with e;omega⟩
def gQ (f:Nat) (l:List co):PR St:=(jw l).then λnm r=>
 if dB n_ r then(cX f nm r).then λx r=> .ok (.mk 7 [] [x] [] [],r)
 else if dB sB r then(cv f 1 r.tail).then λi r=>(cF vx r).then λ_ r=>(cF E9 r).then λ_ r=>(cv f 1 r).then λx r=> .ok (.mk 3 nm [i,x] [] [],r)
 else(cF E9 r).then λ_ r=>(cv f 1 r).then λx r=> .ok (.mk 2 nm [x] [] [],r)
theorem mM (f:Nat) (l:List co) (o:dB Hs l=false) (h:dB v_ l=false) (d:dB nj l=false) (a:dB sA l=false):d7 (f+1) l=(gQ f l).then λs r=>(cF yr r).then λ_ r=> .ok (s,r):=by
 rw[d7,if_neg (by rw[o];simp),if_neg (by rw[h];simp),if_neg (by rw[d];simp),if_neg (by rw[a];simp)];unfold gQ
 cases jw l<;>rfl
theorem cZ {s:List UInt8} {l:List co} (a:dB s l=true):cF s l= .ok ((),l.tail):=by unfold cF;rw[a];rfl
theorem fp {s:List UInt8} {l:List co} (a:dB s l=false):cF s l= .error (l,3):=by unfold cF;rw[a];rfl
theorem cg {l:List co} (a:(cV l).k=1):jw l= .ok ((cV l).t,l.tail):=by unfold jw;rw[if_pos a]
theorem lK {l:List co} (a: ¬(cV l).k=1):jw l= .error (l,3):=by unfold jw;rw[if_neg a]
theorem then_ok {a h:Type} (d:a) (r:List co) (k:a->List co->PR h):PR.then (.ok (d,r)) k=k d r:=rfl
theorem ci {d a:Type} (q:List co) (n:Int) (k:d->List co->PR a):PR.then (.error (q,n)) k= .error (q,n):=rfl
structure SK (w:World) (g:Nat) (en:Int) (pb:Nat) (pc:Array Value) (sb:Nat) (sc:Array Value) (ty:TypeId) (X:World->Prop) (l:List co) (W:World):Prop where
 pa:PA W g l en
 gr:w.grownBy W (some g)
 rb:aM W pb ty pc
 sv:aM W sb ty sc
 nn:g<w.heap.size/\w.heap.size<=pb/\pb<=sb
 xx:X W
 hx: ∀k,k=g\/k=sb-> ∀V V':World,V.grownBy V' (some k)->X V->X V'
section
variable {w W W':World} {g pb sb:Nat} {en:Int} {pc sc:Array Value} {ty:TypeId} {X:World->Prop} {l l':List co}
theorem SK.step (a:SK w g en pb pc sb sc ty X l W) (h:PA W' g l' en) (d:W.grownBy W' (some g)):SK w g en pb pc sb sc ty X l' W':=
 ⟨h,am a.gr d,a.rb.grown d (λe=>by have:=a.nn;injection e with e;omega),a.sv.grown d (λe=>by have:=a.nn;injection e with e;omega),a.nn,a.hx _ (.inl rfl) _ _ d a.xx,a.hx⟩
theorem SK.ext (d:SK w g en pb pc sb sc ty X l W) (a:au W W'):SK w g en pb pc sb sc ty X l W':=d.step (d.pa.ext a) (a.grownBy _)
theorem SK.cells (a:SK w g en pb pc sb sc ty X l W):(∀i,W.cell? ⟨pb,i,none⟩=pc[i]?)/\(∀i,W.frozen? ⟨pb,i,none⟩=false)/\(∀i,W.cell? ⟨sb,i,none⟩=sc[i]?)/\ ∀i,W.frozen? ⟨sb,i,none⟩=false:=
 ⟨a.rb.cell,a.rb.frozen,a.sv.cell,a.sv.frozen⟩
theorem SK.yes (d:SK w g en pb pc sb sc ty X l W) {s:List UInt8} (h:dB s l=true):Calls prog 97 #[.pointer (some ⟨g,0,none⟩), .string (ak s)] W λe W'=>e= .returned (.bool true)/\Hid (SK w g en pb pc sb sc ty X l.tail W'):=by
 have:=cT g l en s W d.pa;rw[h]at this;exact this.mono λe W' a=>⟨a.1,G (d.step a.2.1 a.2.2)⟩
theorem SK.no (d:SK w g en pb pc sb sc ty X l W) {s:List UInt8} (h:dB s l=false):Calls prog 97 #[.pointer (some ⟨g,0,none⟩), .string (ak s)] W λe W'=>e= .returned (.bool false)/\Hid (SK w g en pb pc sb sc ty X l W'):=by
 have:=cT g l en s W d.pa;rw[h]at this;exact this.mono λe W' a=>⟨a.1,G (d.step a.2.1 a.2.2)⟩
theorem SK.is (d:SK w g en pb pc sb sc ty X l W) {s:List UInt8} {b:Bool} (h:dB s l=b):Calls prog 157 #[.pointer (some ⟨g,0,none⟩), .string (ak s)] W λe W'=>e= .returned (.bool b)/\Hid (SK w g en pb pc sb sc ty X l W'):=by
 have:=ir g l en s W d.pa;rw[h]at this;exact this.mono λe W' a=>⟨a.1,G (d.ext a.2)⟩
theorem SK.want (d:SK w g en pb pc sb sc ty X l W) {s:List UInt8} (h:dB s l=true):Calls prog 99 #[.pointer (some ⟨g,0,none⟩), .string (ak s)] W λe W'=>e= .returned (.tuple #[])/\Hid (SK w g en pb pc sb sc ty X l.tail W'):=
 (eW g l en s W d.pa h).mono λe W' a=>⟨a.1,G (d.step a.2.1 a.2.2)⟩
theorem SK.bad (d:SK w g en pb pc sb sc ty X l W) {s:List UInt8} (h:dB s l=false):Calls prog 99 #[.pointer (some ⟨g,0,none⟩), .string (ak s)] W λe W'=>e=a_ en l 3/\Hid (w.grownBy W' (some g)):=
 (gX g l en s W d.pa h).mono λe W' a=>⟨a.1,G (am d.gr a.2)⟩
theorem SK.name (d:SK w g en pb pc sb sc ty X l W) (h:(cV l).k=1):Calls prog 100 #[.pointer (some ⟨g,0,none⟩)] W λe W'=>e= .returned (.string (ak (cV l).t))/\Hid (SK w g en pb pc sb sc ty X l.tail W'):=
 (jL g l en W d.pa h).mono λe W' a=>⟨a.1,G (d.step a.2.1 a.2.2)⟩
theorem SK.noname (d:SK w g en pb pc sb sc ty X l W) (h: ¬(cV l).k=1):Calls prog 100 #[.pointer (some ⟨g,0,none⟩)] W λe W'=>e=a_ en l 3/\Hid (w.grownBy W' (some g)):=
 (qk g l en W d.pa h).mono λe W' a=>⟨a.1,G (am d.gr a.2)⟩
theorem SK.with (d:SK w g en pb pc sb sc ty X l W) {Y:World->Prop} (A:Y W) (z: ∀k,k=g\/k=sb-> ∀a h:World,a.grownBy h (some k)->Y a->Y h):SK w g en pb pc sb sc ty (λa=>X a/\Y a) l W:=
 ⟨d.pa,d.gr,d.rb,d.sv,d.nn,⟨d.xx,A⟩,λk o a h u y=>⟨d.hx k o a h u y.1,z k o a h u y.2⟩⟩
theorem SK.expr (a:SK w g en pb pc sb sc ty X l W) {f:Nat} (M:fB f) (H:4*l.length+2<=f) {x:Ex} {q:List co} (o:cv f 1 l= .ok (x,q)):Calls prog 204 #[.pointer (some ⟨g,0,none⟩), .int .i64 1] W λe W'=>
  ∃d n c,e= .returned (.agg #[.int .i64 x.k, .string (ak x.op), .string (ak x.nm), .string (ak x.tx), .int .i64 x.v, .slice d n c])/\
   Hid (SK w g en pb pc sb sc ty (λu=>X u/\dL u (λb=>sb<b) (.slice (some ⟨W'.heap.size,0,none⟩) 1 1) [x]) q (W'.alloc (.cells #[.int .i64 x.k, .string (ak x.op), .string (ak x.nm), .string (ak x.tx), .int .i64 x.v, .slice d n c] 206))):=by
 have ab:=a;have y:=M 1 l en W g a.pa Qd Qd H;rw[o]at y;refine y.mono λe W' F=> ?_;obtain⟨z,d,n,c,rfl,J,K⟩:=F;have A:=aa W' (.cells #[.int .i64 x.k, .string (ak x.op), .string (ak x.nm), .string (ak x.tx), .int .i64 x.v, .slice d n c] 206);have V:=a.sv.lt;have R:=z.size;refine⟨d,n,c,rfl,G (((a.step K z).ext A).with (tH (aq W' _ _) Qa (J.keep (.of_ext A) (λb h _=>by omega))) λk Z u ac I o=>o.keep (.of_grown I λb h e=>by have:=a.nn;injection e with e;omega) (λb h _=>h))⟩
theorem SK.xerr (h:SK w g en pb pc sb sc ty X l W) {f:Nat} (u:fB f) (o:4*l.length+2<=f) {q:List co} {n:Int} (y:cv f 1 l= .error (q,n)):Calls prog 204 #[.pointer (some ⟨g,0,none⟩), .int .i64 1] W λe W'=>e=a_ en q n/\Hid (w.grownBy W' (some g)):=by
 have d:=u 1 l en W g h.pa Qd Qd o;rw[y]at d;exact d.mono λe W' a=>⟨a.2,G (am h.gr a.1)⟩
theorem SK.block (a:SK w g en pb pc sb sc ty X l W) {f:Nat} (K:mZ f) (A:4*l.length+1<=f) {x:List St} {q:List co} (o:d9 f l= .ok (x,q)):Calls prog 103 #[.pointer (some ⟨g,0,none⟩)] W λe W'=>
  ∃d n c,e= .returned (.slice d n c)/\Hid (SK w g en pb pc sb sc ty (λu=>X u/\ed u (λb=>sb<b) (.slice d n c) x) q W'):=by
 have y:=K l en W g a.pa A;rw[o]at y;refine y.mono λe W' z=> ?_;obtain⟨J,d,n,c,rfl,H,I⟩:=z;have M:=a.sv.lt;exact⟨d,n,c,rfl,G ((a.step I J).with (H.mono (λb h _=>by omega)) λk R u V F o=>o.keep (.of_grown F λb h e=>by have:=a.nn;injection e with e;omega) (λb h _=>h))⟩
theorem SK.berr (h:SK w g en pb pc sb sc ty X l W) {f:Nat} (u:mZ f) (o:4*l.length+1<=f) {q:List co} {n:Int} (y:d9 f l= .error (q,n)):Calls prog 103 #[.pointer (some ⟨g,0,none⟩)] W λe W'=>e=a_ en q n/\Hid (w.grownBy W' (some g)):=by
 have d:=u l en W g h.pa o;rw[y]at d;exact d.mono λe W' a=>⟨a.2,G (am h.gr a.1)⟩
theorem SK.if (d:SK w g en pb pc sb sc ty X l W) {f:Nat} (J:G2 f) (H:4*l.length+3<=f) {s:St} {q:List co} (y:pN f l= .ok (s,q)):Calls prog 203 #[.pointer (some ⟨g,0,none⟩)] W λe W'=>
  ∃h n c B m a C i j,e= .returned (.agg #[.int .i64 s.k, .string (ak s.nm), .slice h n c, .slice B m a, .slice C i j])/\Hid (SK w g en pb pc sb sc ty (λz=>X z/\SV.ok z (λb=>sb<b) ⟨s, .slice h n c, .slice B m a, .slice C i j⟩) q W'):=by
 have A:=J l en W g d.pa H;rw[y]at A;refine A.mono λe W' F=> ?_;obtain⟨K,h,n,c,B,m,a,C,i,j,rfl,u,I⟩:=F;have M:=d.sv.lt;exact⟨h,n,c,B,m,a,C,i,j,rfl,G ((d.step I K).with (u.keep ⟨ah _,λ_ _ _=>rfl⟩ (λb o _=>by omega)) λk R z V u y=>y.keep (.of_grown u λb o e=>by have:=d.nn;injection e with e;omega) (λb o _=>o))⟩
theorem SK.ierr (h:SK w g en pb pc sb sc ty X l W) {f:Nat} (u:G2 f) (o:4*l.length+3<=f) {q:List co} {n:Int} (y:pN f l= .error (q,n)):Calls prog 203 #[.pointer (some ⟨g,0,none⟩)] W λe W'=>e=a_ en q n/\Hid (w.grownBy W' (some g)):=by
 have d:=u l en W g h.pa o;rw[y]at d;exact d.mono λe W' a=>⟨a.2,G (am h.gr a.1)⟩
theorem SK.put5 {F A z y u:Value} (a:SK w g en pb pc sb #[F,A,z,y,u] ty X l W) (H:pb<sb) (o b c h e:Value):SK w g en pb pc sb #[o,b,c,h,e] ty X l (W.setCells sb 0 [o,b,c,h,e]):=by
 have d:=d_ sb [o,b,c,h,e] 0 W;have G:=a.nn;exact⟨a.pa.grown d (λk e=>by injection e with e;omega),ef a.gr d Qa,a.rb.grown d (λe=>by injection e with e;omega),aM.put5' a.sv ..,G,a.hx _ (.inr rfl) _ _ d a.xx,a.hx⟩
theorem SK.set (a:SK w g en pb pc sb sc ty X l W) (o:pb<sb) (i:Nat) (v:Value):SK w g en pb pc sb (sc.setIfInBounds i v) ty X l (W.setCell ⟨sb,i,none⟩ v):=by
 have d:=fu W sb i v;have h:=a.nn;exact⟨a.pa.grown d (λk e=>by injection e with e;omega),ef a.gr d Qa,a.rb.grown d (λe=>by injection e with e;omega),a.sv.set i v,h,a.hx _ (.inr rfl) _ _ d a.xx,a.hx⟩
theorem SK.one (d:PA w g l en) (a:Array Value) (ty:TypeId):SK w g en w.heap.size a w.heap.size a ty (λ_=>True) l (w.alloc (.cells a ty)):=
 ⟨d.ext (aa w _),(aa w _).grownBy _,aq w _ _,aq w _ _,⟨d.lt,ah _,ah _⟩,trivial,λ_ _ _ _ _ _=>trivial⟩
theorem SK.open (a:SK w g en pb pc pb pc ty X l W) (d:Array Value) {Y:World->Prop} (z:X W->Y (W.alloc (.cells d ty))) (y: ∀k,k=g\/k=W.heap.size-> ∀u o:World,u.grownBy o (some k)->Y u->Y o):SK w g en pb pc W.heap.size d ty Y l (W.alloc (.cells d ty)):=by
 have h:=aa W (.cells d ty);have A:=a.rb.lt;have F:=a.nn;exact⟨a.pa.ext h,am a.gr (h.grownBy _),a.rb.ext h,aq W _ _,by omega,z a.xx,y⟩
theorem SK.app (a:SK w g en pb pc sb sc ty X l W) {row:Option Nat} (d:W.grownBy W' row) (h: ∀k,row=some k->sb<k) {Y:World->Prop} (G:Y W') (z: ∀k,k=g\/k=sb-> ∀y u:World,y.grownBy u (some k)->Y y->Y u):SK w g en pb pc sb sc ty Y l W':=by
 have F:=a.nn;refine⟨a.pa.grown d (λk e=>by have:=h k e;omega),⟨d.os.trans a.gr.os,d.tape.trans a.gr.tape,d.output.trans a.gr.output,ax a.gr.size d.size,λi o A=>(d.block i (aA o a.gr.size) (λe=>by have:=h i e.symm;omega)).trans (a.gr.block i o A)⟩,a.rb.grown d (λe=>by have:=h _ e.symm;omega),a.sv.grown d (λe=>by have:=h _ e.symm;omega),F,G,z⟩
end
theorem SK.fin {w W:World} {g sb:Nat} {en:Int} {G F A z y:Value} {sc:Array Value} {X:World->Prop} {q:List co} (o:SK w g en w.heap.size #[G,F,A,z,y] sb sc 147 X q W) {r:PR St} (s:St) (k:Int) (a:ByteArray) (h:Option Addr) (n c:Nat) (B:Option Addr) (m d:Nat) (C:Option Addr) (i j:Nat) (H:r= .ok (s,q)) (J:s.k=k) (I:ak s.nm=a)
  (K:X W->SV.ok W (λb=>w.heap.size<b) ⟨s, .slice h n c, .slice B m d, .slice C i j⟩):
  (∀u,(W.setCells w.heap.size 0 [.int .i64 k, .string a, .slice h n c, .slice B m d, .slice C i j]).cell? ⟨w.heap.size,u,none⟩=(#[.int .i64 k, .string a, .slice h n c, .slice B m d, .slice C i j]:Array Value)[u]?)/\
  zy g en w r (.returned (.agg #[.int .i64 k, .string a, .slice h n c, .slice B m d, .slice C i j])) (W.setCells w.heap.size 0 [.int .i64 k, .string a, .slice h n c, .slice B m d, .slice C i j]):=
 F_ s k a h n c B m d C i j H J I (ah _) o.rb o.gr o.pa o.nn.1 (K o.xx)
section
variable {w W W':World} {g pb sb:Nat} {en:Int} {pc sc:Array Value} {ty:TypeId} {X:World->Prop} {l l':List co}
theorem SK.open2 {e v:Value} {xs:List Ex} {u:List St} (z:SK w g en w.heap.size pc w.heap.size pc ty (λd=>(True/\dL d (λb=>w.heap.size<b) e xs)/\ed d (λb=>w.heap.size<b) v u) l W) (o:Array Value):
  SK w g en w.heap.size pc W.heap.size o ty (λd=>dL d (λb=>w.heap.size<b/\b≠W.heap.size) e xs/\ed d (λb=>w.heap.size<b/\b≠W.heap.size) v u) l (W.alloc (.cells o ty)):=by
 have H:=z.nn;refine z.open o (λh=>⟨h.1.2.keep (.of_ext (aa W _)) (λb a A=>⟨a,by omega⟩),h.2.keep (.of_ext (aa W _)) (λb a A=>⟨a,by omega⟩)⟩) λk I d G F h=> ?_;have y:dE (λb=>w.heap.size<b/\b≠W.heap.size) d G:= .of_grown F λb a e=>by injection e with e;omega
 exact⟨h.1.keep y (λb a _=>a),h.2.keep y (λb a _=>a)⟩
theorem SK.if1 (A:SK w g en pb pc sb sc ty X l W) {f:Nat} (M:G2 f) (K:4*l.length+3<=f) {s:St} {q:List co} (o:pN f l= .ok (s,q)):Calls prog 203 #[.pointer (some ⟨g,0,none⟩)] W λe W'=>
  ∃y n c B m u C i j,e= .returned (.agg #[.int .i64 s.k, .string (ak s.nm), .slice y n c, .slice B m u, .slice C i j])/\Hid (SK w g en pb pc sb sc ty (λh=>X h/\ed h (λb=>sb<b) (.slice (some ⟨W'.heap.size,0,none⟩) 1 1) [s]) q (W'.alloc (.cells #[.int .i64 s.k, .string (ak s.nm), .slice y n c, .slice B m u, .slice C i j] 147))):=by
 refine(A.if M K o).mono λe W' J=> ?_;obtain⟨y,n,c,B,m,u,C,i,j,rfl,k⟩:=J;have k:=k.out;have H:=aa W' (.cells #[.int .i64 s.k, .string (ak s.nm), .slice y n c, .slice B m u, .slice C i j] 147);have R:=k.sv.lt;refine⟨y,n,c,B,m,u,C,i,j,rfl,G ?_⟩;have a:=(k.ext H).with (Y:=λh=>ed h (λb=>sb<b) (.slice (some ⟨W'.heap.size,0,none⟩) 1 1) [s]) (ed.one (aq W' _ _) Qa (k.xx.2.keep (.of_ext H) (λ_ d _=>d))) λk F h I z o=>o.keep (.of_grown z λb d e=>by have:=A.nn;injection e with e;omega) (λb d _=>d);exact⟨a.pa,a.gr,a.rb,a.sv,a.nn,⟨a.xx.1.1,a.xx.2⟩,λk F h I z o=>⟨A.hx k F h I z o.1,o.2.keep (.of_grown z λb d e=>by have:=A.nn;injection e with e;omega) (λb d _=>d)⟩⟩
end
theorem DQ (f:Nat) (ah:fB f) (ab:mZ f) (ag:G2 f):G2 (f+1):=by
 intro l en w g A az;have ay:=A.lt;have a:=G (SK.one A #[.int .i64 0, .string ⟨#[]⟩, .slice none 0 0, .slice none 0 0, .slice none 0 0] 147);have ao:w.heap.size≠g:=Qa
 have ax:g≠w.heap.size:=Qa
 obtain⟨z,y,u,o⟩:=a.out.cells;clear A;go_enter func203,ntmps203;have ae:4*l.length+2<=f:=Qa
 cases hx:cv f 1 l with
 |error p=>
  obtain⟨q,ad⟩:=p;go_wp2_with (go_at_call 204;refine(a.out.xerr ah ae hx).mono ?_;unfold a_;rintro e F ⟨rfl,M⟩);exact⟨rfl,dI (by rw[pN,hx,ci]) M.out⟩
 |ok p=>
  obtain⟨x,r⟩:=p;have aq:=(jR f).1 _ _ _ _ hx;have af:4*r.length+1<=f:=Qa
  go_wp2_with (go_at_call 204;refine(a.out.expr ah ae hx).mono ?_;rintro e J ⟨aF,n,c,rfl,a⟩;clear z y u o;obtain⟨z,y,u,o⟩:=a.out.cells)
  cases d:d9 f r with
  |error p=>
   obtain⟨q,ad⟩:=p;go_wp2_with (go_at_call 103;refine(a.out.berr ab af d).mono ?_;unfold a_;rintro e F ⟨rfl,M⟩);exact⟨rfl,dI (by rw[pN,hx,then_ok,d,ci]) M.out⟩
  |ok p=>
   obtain⟨b,R⟩:=p;have av:=(pK f).1 _ _ _ d;go_wp2_with (go_at_call 103;refine(a.out.block ab af d).mono ?_;rintro e aa ⟨B,m,K,rfl,a⟩;have al:=a.out.rb.lt;have a:=G (a.out.open2 #[.int .i64 4, .string ⟨#[]⟩, .slice (some ⟨J.heap.size,0,none⟩) 1 1, .slice B m K, .slice none 0 0]);clear z y u o;obtain⟨z,y,u,o⟩:=a.out.cells);have an:aa.heap.size≠g:=Qa
   have aw:g≠aa.heap.size:=Qa
   have ap:w.heap.size≠aa.heap.size:=Qa
   have am:aa.heap.size≠w.heap.size:=Qa
   cases he:dB E_ R with
   |true=>
    have au:=bK he;go_wp2_with (go_at_call 97;refine(a.out.yes he).mono ?_;rintro e F ⟨rfl,a⟩;clear z y u o;obtain⟨z,y,u,o⟩:=a.out.cells)
    cases hi:dB Hs R.tail with
    |true=>
     have ar:=bK hi;have V:4*R.tail.tail.length+3<=f:=Qa
     go_wp2_with (go_at_call 97;refine(a.out.yes hi).mono ?_;rintro e F ⟨rfl,a⟩;clear z y u o;obtain⟨z,y,u,o⟩:=a.out.cells)
     cases hc:pN f R.tail.tail with
     |error p=>
      obtain⟨q,ad⟩:=p;go_wp2_with (go_at_call 203;refine(a.out.ierr ag V hc).mono ?_;unfold a_;rintro e F ⟨rfl,M⟩);exact⟨rfl,dI (by rw[pN,hx,then_ok,d,then_ok,if_pos he,if_pos hi,hc,ci]) M.out⟩
     |ok p=>
      obtain⟨t,q⟩:=p;go_wp2_with (go_at_call 203;refine(a.out.if1 ag V hc).mono ?_;rintro e ac ⟨aD,ak,c1,aC,aj,c2,aB,ai,aA,rfl,a⟩;clear z y u o;obtain⟨z,y,u,o⟩:=a.out.cells;have k:=a.out.set Qa 4 (.slice (some ⟨ac.heap.size,0,none⟩) 1 1);simp only[World.setCells,aE,Nat.reduceAdd,a8,bZ,b6]at k;have a:=G k;clear k);obtain⟨H,I⟩:=a.out.fin (r:=pN (f+1) l) (.mk 4 [] [x] b [t]) 4 ⟨#[]⟩ (some ⟨J.heap.size,0,none⟩) 1 1 B m K (some ⟨ac.heap.size,0,none⟩) 1 1 (by rw[pN,hx,then_ok,d,then_ok,if_pos he,if_pos hi,hc,then_ok]) rfl rfl (λA=>⟨A.1.1.mono (λb d _=>d.1),A.1.2.mono (λb d _=>d.1),A.2.mono (λb d _=>by omega)⟩);simp only[World.setCells,aE,Nat.reduceAdd]at H I;exact bodyPost_ret (v:= .agg #[.int .i64 4, .string ⟨#[]⟩, .slice (some ⟨J.heap.size,0,none⟩) 1 1, .slice B m K, .slice (some ⟨ac.heap.size,0,none⟩) 1 1]) (by simp[results,results203,go_sem,H]) rfl I
    |false=>
     have V:4*R.tail.length+1<=f:=Qa
     have Z:=hi;go_wp2_with (go_at_call 97;refine(a.out.no Z).mono ?_;rintro e F ⟨rfl,a⟩;clear Z;clear z y u o;obtain⟨z,y,u,o⟩:=a.out.cells)
     cases hc:d9 f R.tail with
     |error p=>
      obtain⟨q,ad⟩:=p;go_wp2_with (go_at_call 103;refine(a.out.berr ab V hc).mono ?_;unfold a_;rintro e F ⟨rfl,M⟩);exact⟨rfl,dI (by rw[pN,hx,then_ok,d,then_ok,if_pos he,if_neg (by simp[hi]),hc,ci]) M.out⟩
     |ok p=>
      obtain⟨t,q⟩:=p;go_wp2_with (go_at_call 103;refine(a.out.block ab V hc).mono ?_;rintro e F ⟨C,i,j,rfl,a⟩;clear z y u o;obtain⟨z,y,u,o⟩:=a.out.cells;have k:=a.out.set Qa 4 (.slice C i j);simp only[World.setCells,aE,Nat.reduceAdd,a8,bZ,b6]at k;have a:=G k;clear k);obtain⟨H,I⟩:=a.out.fin (r:=pN (f+1) l) (.mk 4 [] [x] b t) 4 ⟨#[]⟩ (some ⟨J.heap.size,0,none⟩) 1 1 B m K C i j (by rw[pN,hx,then_ok,d,then_ok,if_pos he,if_neg (by simp[hi]),hc,then_ok]) rfl rfl (λA=>⟨A.1.1.mono (λb d _=>d.1),A.1.2.mono (λb d _=>d.1),A.2.mono (λb d _=>by omega)⟩);simp only[World.setCells,aE,Nat.reduceAdd]at H I;exact bodyPost_ret (v:= .agg #[.int .i64 4, .string ⟨#[]⟩, .slice (some ⟨J.heap.size,0,none⟩) 1 1, .slice B m K, .slice C i j]) (by simp[results,results203,go_sem,H]) rfl I
   |false=>
    have Z:=he;go_wp2_with (go_at_call 97;refine(a.out.no Z).mono ?_;rintro e F ⟨rfl,a⟩;clear Z;clear z y u o;obtain⟨z,y,u,o⟩:=a.out.cells);obtain⟨H,I⟩:=a.out.fin (r:=pN (f+1) l) (.mk 4 [] [x] b []) 4 ⟨#[]⟩ (some ⟨J.heap.size,0,none⟩) 1 1 B m K none 0 0 (by rw[pN,hx,then_ok,d,then_ok,if_neg (by simp[he])]) rfl rfl (λA=>⟨A.1.mono (λb d _=>d.1),A.2.mono (λb d _=>d.1), .nil _ _⟩);simp only[World.setCells,aE,Nat.reduceAdd]at H I;exact bodyPost_ret (v:= .agg #[.int .i64 4, .string ⟨#[]⟩, .slice (some ⟨J.heap.size,0,none⟩) 1 1, .slice B m K, .slice none 0 0]) (by simp[results,results203,go_sem,H]) rfl I
theorem ik.lit {w:World} {base:Nat} {x:Ex} {d:Option Addr} {n c:Nat} (a:base<=w.heap.size) (o:dL w (λb=>base<=b) (.slice d n c) x.args):ik (w.alloc (.cells #[.int .i64 x.k, .string (ak x.op), .string (ak x.nm), .string (ak x.tx), .int .i64 x.v, .slice d n c] 206)) base 206 (.slice (some ⟨w.heap.size,0,none⟩) 1 1) [(x, .slice d n c)]:=by
 refine⟨World.ownsRow_lit w _ 1 a (by simp[maxLen]) rfl,λp h=> ?_⟩;rw[cH]at h;subst h;exact o.keep (.of_ext (aa w _)) (λb a u=>⟨a,λe=>by have e:b=w.heap.size:=ab e;omega⟩)
theorem xD (x:Ex) (h:Option Addr) (n c:Nat): ∀a∈yX x (.slice h n c),a.oneCell'=true:=by
 intro a d;simp only[yX,bT,bB,or_false]at d;rcases d with rfl|rfl|rfl|rfl|rfl|rfl<;>rfl
section
variable {w W W':World} {g pb sb:Nat} {en:Int} {pc sc:Array Value} {ty:TypeId} {X:World->Prop} {l l':List co}
theorem SK.named (d:SK w g en pb pc sb sc ty X l W) {f:Nat} {nm:List UInt8} (M:jF f) (H:4*l.length+1<=f) {x:Ex} {q:List co} (o:cX f nm l= .ok (x,q)):Calls prog 230 #[.pointer (some ⟨g,0,none⟩), .string (ak nm)] W λe W'=>
  ∃a n c,e= .returned (.agg #[.int .i64 x.k, .string (ak x.op), .string (ak x.nm), .string (ak x.tx), .int .i64 x.v, .slice a n c])/\Hid (SK w g en pb pc sb sc ty (λu=>X u/\dL u (λb=>sb<b) (.slice (some ⟨W'.heap.size,0,none⟩) 1 1) [x]) q (W'.alloc (.cells #[.int .i64 x.k, .string (ak x.op), .string (ak x.nm), .string (ak x.tx), .int .i64 x.v, .slice a n c] 206))):=by
 have y:=M nm l en W g d.pa H;rw[o]at y;refine y.mono λe W' F=> ?_;obtain⟨z,a,n,c,rfl,J,K⟩:=F;have A:=aa W' (.cells #[.int .i64 x.k, .string (ak x.op), .string (ak x.nm), .string (ak x.tx), .int .i64 x.v, .slice a n c] 206);have V:=d.sv.lt;have R:=z.size;exact⟨a,n,c,rfl,G (((d.step K z).ext A).with (tH (aq W' _ _) Qa (J.keep (.of_ext A) (λb h _=>by omega))) λk Z u ab I o=>o.keep (.of_grown I λb h e=>by have:=d.nn;injection e with e;omega) (λb h _=>h))⟩
theorem SK.nerr (h:SK w g en pb pc sb sc ty X l W) {f:Nat} {nm:List UInt8} (u:jF f) (o:4*l.length+1<=f) {q:List co} {n:Int} (y:cX f nm l= .error (q,n)):Calls prog 230 #[.pointer (some ⟨g,0,none⟩), .string (ak nm)] W λe W'=>e=a_ en q n/\Hid (w.grownBy W' (some g)):=by
 have d:=u nm l en W g h.pa o;rw[y]at d;exact d.mono λe W' a=>⟨a.2,G (am h.gr a.1)⟩
theorem SK.exOwn (d:SK w g en pb pc sb sc ty X l W) {f:Nat} (K:fB f) (A:4*l.length+2<=f) {x:Ex} {q:List co} (h:cv f 1 l= .ok (x,q)):Calls prog 204 #[.pointer (some ⟨g,0,none⟩), .int .i64 1] W λe W'=>
  ∃a n c,e= .returned (.agg #[.int .i64 x.k, .string (ak x.op), .string (ak x.nm), .string (ak x.tx), .int .i64 x.v, .slice a n c])/\Hid (SK w g en pb pc sb sc ty (λy=>ik y (sb+1) 206 (.slice (some ⟨W'.heap.size,0,none⟩) 1 1) [(x, .slice a n c)]) q (W'.alloc (.cells #[.int .i64 x.k, .string (ak x.op), .string (ak x.nm), .string (ak x.tx), .int .i64 x.v, .slice a n c] 206))):=by
 have o:=K 1 l en W g d.pa Qd Qd A;rw[h]at o;refine o.mono λe W' z=> ?_;obtain⟨u,a,n,c,rfl,H,I⟩:=z;have R:=d.sv.lt;have M:=u.size;have V:=d.nn;have J:=ik.lit (x:=x) (base:=sb+1) (w:=W') Qa (H.mono (λb ab _=>by omega));exact⟨a,n,c,rfl,G (((d.step I u).ext (aa W' _)).app ⟨rfl,rfl,rfl,ah _,λ_ _ _=>rfl⟩ (row:=none) (λk e=>by cases e) J λk Z y ac F h=>h.grown F (λk e=>by injection e with e;omega))⟩
end
theorem ua (f:Nat) (aA:fB f) (a4:jF f) (l:List co) (en:Int) (w:World) (g:Nat) (o:PA w g l en) (bB:4*l.length+2<=f):Calls prog 205 #[.pointer (some ⟨g,0,none⟩)] w (zy g en w (gQ f l)):=by
 have bz:=o.lt;have a:=G (SK.one o #[.int .i64 0, .string ⟨#[]⟩, .slice none 0 0, .slice none 0 0, .slice none 0 0] 147);have bj:w.heap.size≠g:=Qa
 have bv:g≠w.heap.size:=Qa
 obtain⟨K,J,I,H⟩:=a.out.cells;clear o;go_enter func205,ntmps205;by_cases ac:(cV l).k=1
 rotate_left
 ·go_wp2_with (go_at_call 100;refine(a.out.noname ac).mono ?_;unfold a_;rintro e M ⟨rfl,ad⟩);exact⟨rfl,dI (by unfold gQ;rw[lK ac,ci]) ad.out⟩
 have bm:=jb (l:=l) (by rw[ac];decide);go_wp2_with (go_at_call 100;refine(a.out.name ac).mono ?_;rintro e Z ⟨rfl,a⟩;have bh:=a.out.rb.lt;have a:=G (a.out.open (Y:=λav=>ik av (Z.heap.size+1) 206 (.slice none 0 0) []) #[.int .i64 2, .string (ak (cV l).t), .slice none 0 0, .slice none 0 0, .slice none 0 0] (λ_=>r5 _ _ _) λ_ _ _ _ _ _=>r5 _ _ _);have aN:Z.heap.size≠g:=Qa;have bu:g≠Z.heap.size:=Qa;have bk:w.heap.size≠Z.heap.size:=Qa;have bi:Z.heap.size≠w.heap.size:=Qa;clear K J I H;obtain⟨K,J,I,H⟩:=a.out.cells)
 cases hlp:dB n_ l.tail with
 |true=>
  have a3:4*l.tail.length+1<=f:=Qa
  go_wp2_with (go_at_call 157;refine(a.out.is hlp).mono ?_;rintro e M ⟨rfl,a⟩;clear K J I H;obtain⟨K,J,I,H⟩:=a.out.cells)
  cases z:cX f (cV l).t l.tail with
  |error p=>
   obtain⟨q,aW⟩:=p;go_wp2_with (go_at_call 230;refine(a.out.nerr a4 a3 z).mono ?_;unfold a_;rintro e M ⟨rfl,ad⟩);exact⟨rfl,dI (by unfold gQ;rw[cg ac,then_ok,if_pos hlp,z,ci]) ad.out⟩
  |ok p=>
   obtain⟨x,q⟩:=p;go_wp2_with (go_at_call 230;refine(a.out.named a4 a3 z).mono ?_;rintro e a1 ⟨u,n,c,rfl,a⟩;clear K J I H;obtain⟨K,J,I,H⟩:=a.out.cells);obtain⟨am,an⟩:=a.out.fin (r:=gQ f l) (.mk 7 [] [x] [] []) 7 ⟨#[]⟩ (some ⟨a1.heap.size,0,none⟩) 1 1 none 0 0 none 0 0 (by unfold gQ;rw[cg ac,then_ok,if_pos hlp,z,then_ok]) rfl rfl (λo=>⟨o.2.mono (λb F _=>by omega), .nil _ _, .nil _ _⟩);simp only[World.setCells,aE,Nat.reduceAdd]at am an;exact bodyPost_ret (v:= .agg #[.int .i64 7, .string ⟨#[]⟩, .slice (some ⟨a1.heap.size,0,none⟩) 1 1, .slice none 0 0, .slice none 0 0]) (by simp[results,results205,go_sem,am]) rfl an
 |false=>
  go_wp2_with (go_at_call 157;refine(a.out.is hlp).mono ?_;rintro e M ⟨rfl,a⟩;clear K J I H;obtain⟨K,J,I,H⟩:=a.out.cells)
  cases hls:dB sB l.tail with
  |true=>
   have bp:=bK hls;have a2:4*l.tail.tail.length+2<=f:=Qa
   go_wp2_with (go_at_call 97;refine(a.out.yes hls).mono ?_;rintro e M ⟨rfl,a⟩;clear K J I H;obtain⟨K,J,I,H⟩:=a.out.cells)
   cases z:cv f 1 l.tail.tail with
   |error p=>
    obtain⟨q,aW⟩:=p;go_wp2_with (go_at_call 204;refine(a.out.xerr aA a2 z).mono ?_;unfold a_;rintro e M ⟨rfl,ad⟩);exact⟨rfl,dI (by unfold gQ;rw[cg ac,then_ok,if_neg (by simp[hlp]),if_pos hls,z,ci]) ad.out⟩
   |ok p=>
    obtain⟨x,r⟩:=p;have bl:=(jR f).1 _ _ _ _ z;go_wp2_with (go_at_call 204;refine(a.out.exOwn aA a2 z).mono ?_;rintro e aZ ⟨u,n,c,rfl,a⟩;clear K J I H;obtain⟨K,J,I,H⟩:=a.out.cells;have k:=(a.out.set Qa 0 (.int .i64 3)).set Qa 2 (.slice (some ⟨aZ.heap.size,0,none⟩) 1 1);simp only[World.setCells,aE,Nat.reduceAdd,a8,bZ,b6]at k;have a:=G k;clear k)
    cases hrs:dB vx r with
    |true=>
     have bt:=bK hrs;go_wp2_with (go_at_call 99;refine(a.out.want hrs).mono ?_;rintro e M ⟨rfl,a⟩;clear K J I H;obtain⟨K,J,I,H⟩:=a.out.cells)
     cases heq:dB E9 r.tail with
     |true=>
      have bq:=bK heq;have aG:4*r.tail.tail.length+2<=f:=Qa
      go_wp2_with (go_at_call 99;refine(a.out.want heq).mono ?_;rintro e ah ⟨rfl,a⟩;clear K J I H;obtain⟨K,J,I,H⟩:=a.out.cells)
      cases hy:cv f 1 r.tail.tail with
      |error p=>
       obtain⟨q,aW⟩:=p;refine cM 5 8 [(3,λv=>v= .agg #[.int .i64 0, .string ⟨#[]⟩, .string ⟨#[]⟩, .string ⟨#[]⟩, .int .i64 0, .slice none 0 0],λ_ _=>False),(4,λv=> ∃y,v= .slice (some ⟨y,0,none⟩) 1 1,λ_ _=>True)] 3 (some g) mixed Qb ⟨λ_ _ _ o _=>o,λ_ _ _ o _=>o,trivial⟩ ⟨.inl rfl, .inr λ_ _ _ o _=>o,trivial⟩ ?_;repeat (refine sx ?_ (λZ V=> ?_) ?_;rotate_left;(focus have aV:=(a.out.sv.grown (aJ V) (λe=>aN (ab e))).cell;clear V;go_simp<;>with_reducible rfl);simp only[bA,bx,bw,br,bo])
       refine dD _ _ Qf rfl ⟨_,rfl⟩ rfl (λR af A ay ag=> ?_) ?_
       ·clear A;have au:=((a.out.ext af.un).xerr aA aG hy)
        clear af;go_simp;refine au.mono ?_;unfold a_;rintro e aO ⟨rfl,ad⟩;intro bf aQ;exact⟨aQ,dI (by unfold gQ;rw[cg ac,then_ok,if_neg (by simp[hlp]),if_pos hls,z,then_ok,cZ hrs,then_ok,cZ heq,then_ok,hy,ci]) ad.out⟩
       rintro _ rfl;simp only[bA,bx,bw,br,bo];refine cS _ _ Qf rfl ⟨_,0,rfl⟩ Qe (λR V A ay ag=> ?_) ?_
       ·clear A;go_simp;exact ag _ _ (aa R _) ⟨_,rfl⟩ trivial
       rintro _ ⟨y,rfl⟩;simp only[bA,bx,bw,br,bo];intro R bb A;exact(A _ (.tail _ (.head _))).elim
      |ok p=>
       obtain⟨d,q⟩:=p;have bd:g<ah.heap.size:=a.out.pa.lt;have bc:Z.heap.size<ah.heap.size:=a.out.sv.lt
       refine cM 5 8 [(3,λv=> ∃u n c,v= .agg #[.int .i64 d.k, .string (ak d.op), .string (ak d.nm), .string (ak d.tx), .int .i64 d.v, .slice u n c],λv M=> ∀u n c,v= .agg #[.int .i64 d.k, .string (ak d.op), .string (ak d.nm), .string (ak d.tx), .int .i64 d.v, .slice u n c]->dL M (λb=>ah.heap.size<=b) (.slice u n c) d.args/\PA M g q en),
         (4,λv=> ∃y,v= .slice (some ⟨y,0,none⟩) 1 1,λv M=> ∀y,v= .slice (some ⟨y,0,none⟩) 1 1->ah.heap.size<=y/\ ∃u n c,aM M y 206 #[.int .i64 d.k, .string (ak d.op), .string (ak d.nm), .string (ak d.tx), .int .i64 d.v, .slice u n c]/\dL M (λb=>ah.heap.size<=b) (.slice u n c) d.args)] 3 (some g) mixed Qb ⟨λ_ _ _ o z u n c e=>⟨(o u n c e).1.keep (.of_ext z) (λ_ F _=>F),(o u n c e).2.ext z⟩,λ_ _ _ o z y e=>let⟨q0,u,n,c,q1,q2⟩:=o y e;⟨q0,u,n,c,q1.ext z,q2.keep (.of_ext z) (λ_ F _=>F)⟩,trivial⟩
        ⟨.inl rfl, .inr λ_ _ _ o z y e=>let⟨q0,u,n,c,q1,q2⟩:=o y e;⟨q0,u,n,c,q1.grown z (λe=>by injection e with e;omega),q2.keep (.of_grown z λb F e=>by injection e with e;omega) (λ_ F _=>F)⟩,trivial⟩ ?_
       repeat (refine sx ?_ (λZ V=> ?_) ?_;rotate_left;(focus have aV:=(a.out.sv.grown (aJ V) (λe=>aN (ab e))).cell;clear V;go_simp<;>with_reducible rfl);simp only[bA,bx,bw,br,bo])
       refine dD _ _ Qf rfl ⟨_,none,0,0,rfl⟩ rfl (λR af A ay ag=> ?_) ?_
       ·clear A;have au:=aA 1 _ en R g (a.out.pa.ext af.un) Qd Qd aG;have aX:=G af.un;clear af;go_simp;refine au.mono ?_;intro e aO aF;rw[hy]at aF;obtain⟨aU,u,n,c,rfl,aS,aT⟩:=aF;exact ag _ _ aU ⟨_,_,_,rfl⟩ (λaj a9 c' e=>by injection e with e;simp only[fX,dM,eR,and_true,true_and]at e;obtain⟨rfl,rfl,rfl⟩:=e;exact⟨aS.mono (λb F _=>ax (dm aX.out) F),aT⟩)
       rintro _ ⟨az,ao,c2,rfl⟩;simp only[bA,bx,bw,br,bo];refine cS _ _ Qf rfl ⟨_,0,rfl⟩ Qe (λR V A ay ag=> ?_) ?_
       ·have al:=(A _ (.head _) Qb) az ao c2 rfl;have aP:=(aJ V).size;clear A V;go_simp;exact ag _ _ (aa R _) ⟨_,rfl⟩ (λy e=>by injection e with e;injection e with e;injection e with e;subst e;exact⟨aP,az,ao,c2,aq R _ _,al.1.keep (.of_ext (aa R _)) (λ_ F _=>F)⟩)
       rintro _ ⟨y,rfl⟩;simp only[bA,bx,bw,br,bo];intro a7 ai A;obtain⟨be,aL,aB,aK,aI,aH⟩:=A _ (.head _) y rfl;have al:=(A _ (.tail _ (.head _)) az ao c2 rfl).2;clear A;simp only[ae,aw];have ai:=aJ ai;have ba:=ai.size;have ap:=World.ownsRow.lt a.out.xx.1;have a:=G (a.out.step al ai);have aY:=G (aH.mono (Q:=λb=>Z.heap.size+1<=b/\some b≠Value.ownBlock (.slice (some ⟨aZ.heap.size,0,none⟩) 1 1)) (λb F _=>⟨by omega,λe=>by have:=(ap b e.symm).2;omega⟩));clear ai al aH K J I H;refine eV Jj rfl _ _ rfl (Z.heap.size+1) _ 1 (gR [(x, .slice u n c)]) rfl a.out.xx.1 y (yX d (.slice aL aB aK)) rfl aI rfl (xD _ _ _ _) Qa Qd Qa ?_;intro aj cap' a6 aD ar aC;have a:=G (a.out.app (Y:=λav=>ik av (Z.heap.size+1) 206 (.slice (some ⟨aj,0,none⟩) 2 cap') [(x, .slice u n c),(d, .slice aL aB aK)]) ar (λk e=>(ap k e).1) (a.out.xx.snoc aY.out aD ar aC) λk ac av bg aR o=>o.grown aR (λk e=>by injection e with e;omega));obtain⟨K,J,I,H⟩:=a.out.cells;clear aD ar aC aI ap;go_wp2_with fail;have a:=G (a.out.set Qa 2 (.slice (some ⟨aj,0,none⟩) 2 cap'));obtain⟨am,an⟩:=a.out.fin (r:=gQ f l) (.mk 3 (cV l).t [x,d] [] []) 3 (ak (cV l).t) (some ⟨aj,0,none⟩) 2 cap' none 0 0 none 0 0 (by unfold gQ;rw[cg ac,then_ok,if_neg (by simp[hlp]),if_pos hls,z,then_ok,cZ hrs,then_ok,cZ heq,then_ok,hy,then_ok]) rfl rfl (λo=>⟨by have:=o.rd.mono (Q:=λb=>w.heap.size<b) (λb F _=>by omega);simpa[St.ex]using this, .nil _ _, .nil _ _⟩);simp only[World.setCells,aE,Nat.reduceAdd]at am an;exact bodyPost_ret (v:= .agg #[.int .i64 3, .string (ak (cV l).t), .slice (some ⟨aj,0,none⟩) 2 cap', .slice none 0 0, .slice none 0 0]) (by simp[results,results205,go_sem,am]) rfl an
     |false=>
      go_wp2_with (go_at_call 99;refine(a.out.bad heq).mono ?_;unfold a_;rintro e M ⟨rfl,ad⟩);exact⟨rfl,dI (by unfold gQ;rw[cg ac,then_ok,if_neg (by simp[hlp]),if_pos hls,z,then_ok,cZ hrs,then_ok,fp heq,ci]) ad.out⟩
    |false=>
     go_wp2_with (go_at_call 99;refine(a.out.bad hrs).mono ?_;unfold a_;rintro e M ⟨rfl,ad⟩);exact⟨rfl,dI (by unfold gQ;rw[cg ac,then_ok,if_neg (by simp[hlp]),if_pos hls,z,then_ok,fp hrs,ci]) ad.out⟩
  |false=>
   have a5:=hls;go_wp2_with (go_at_call 97;refine(a.out.no a5).mono ?_;rintro e M ⟨rfl,a⟩;clear a5;clear K J I H;obtain⟨K,J,I,H⟩:=a.out.cells)
   cases heq:dB E9 l.tail with
   |true=>
    have bn:=bK heq;have aG:4*l.tail.tail.length+2<=f:=Qa
    go_wp2_with (go_at_call 99;refine(a.out.want heq).mono ?_;rintro e ah ⟨rfl,a⟩;clear K J I H;obtain⟨K,J,I,H⟩:=a.out.cells)
    cases hy:cv f 1 l.tail.tail with
    |error p=>
     obtain⟨q,aW⟩:=p;refine cM 5 8 [(3,λv=>v= .agg #[.int .i64 0, .string ⟨#[]⟩, .string ⟨#[]⟩, .string ⟨#[]⟩, .int .i64 0, .slice none 0 0],λ_ _=>False),(4,λv=> ∃y,v= .slice (some ⟨y,0,none⟩) 1 1,λ_ _=>True)] 3 (some g) mixed Qb ⟨λ_ _ _ o _=>o,λ_ _ _ o _=>o,trivial⟩ ⟨.inl rfl, .inr λ_ _ _ o _=>o,trivial⟩ ?_;repeat (refine sx ?_ (λZ V=> ?_) ?_;rotate_left;(focus have aV:=(a.out.sv.grown (aJ V) (λe=>aN (ab e))).cell;clear V;go_simp<;>with_reducible rfl);simp only[bA,bx,bw,br,bo])
     refine dD _ _ Qf rfl ⟨_,rfl⟩ rfl (λR af A ay ag=> ?_) ?_
     ·clear A;have au:=((a.out.ext af.un).xerr aA aG hy)
      clear af;go_simp;refine au.mono ?_;unfold a_;rintro e aO ⟨rfl,ad⟩;intro bf aQ;exact⟨aQ,dI (by unfold gQ;rw[cg ac,then_ok,if_neg (by simp[hlp]),if_neg (by simp[hls]),cZ heq,then_ok,hy,ci]) ad.out⟩
     rintro _ rfl;simp only[bA,bx,bw,br,bo];refine cS _ _ Qf rfl ⟨_,0,rfl⟩ Qe (λR V A ay ag=> ?_) ?_
     ·clear A;go_simp;exact ag _ _ (aa R _) ⟨_,rfl⟩ trivial
     rintro _ ⟨y,rfl⟩;simp only[bA,bx,bw,br,bo];intro R bb A;exact(A _ (.tail _ (.head _))).elim
    |ok p=>
     obtain⟨d,q⟩:=p;have bd:g<ah.heap.size:=a.out.pa.lt;have bc:Z.heap.size<ah.heap.size:=a.out.sv.lt
     refine cM 5 8 [(3,λv=> ∃u n c,v= .agg #[.int .i64 d.k, .string (ak d.op), .string (ak d.nm), .string (ak d.tx), .int .i64 d.v, .slice u n c],λv M=> ∀u n c,v= .agg #[.int .i64 d.k, .string (ak d.op), .string (ak d.nm), .string (ak d.tx), .int .i64 d.v, .slice u n c]->dL M (λb=>ah.heap.size<=b) (.slice u n c) d.args/\PA M g q en),
       (4,λv=> ∃y,v= .slice (some ⟨y,0,none⟩) 1 1,λv M=> ∀y,v= .slice (some ⟨y,0,none⟩) 1 1->ah.heap.size<=y/\ ∃u n c,aM M y 206 #[.int .i64 d.k, .string (ak d.op), .string (ak d.nm), .string (ak d.tx), .int .i64 d.v, .slice u n c]/\dL M (λb=>ah.heap.size<=b) (.slice u n c) d.args)] 3 (some g) mixed Qb ⟨λ_ _ _ o z u n c e=>⟨(o u n c e).1.keep (.of_ext z) (λ_ F _=>F),(o u n c e).2.ext z⟩,λ_ _ _ o z y e=>let⟨q0,u,n,c,q1,q2⟩:=o y e;⟨q0,u,n,c,q1.ext z,q2.keep (.of_ext z) (λ_ F _=>F)⟩,trivial⟩
      ⟨.inl rfl, .inr λ_ _ _ o z y e=>let⟨q0,u,n,c,q1,q2⟩:=o y e;⟨q0,u,n,c,q1.grown z (λe=>by injection e with e;omega),q2.keep (.of_grown z λb F e=>by injection e with e;omega) (λ_ F _=>F)⟩,trivial⟩ ?_
     repeat (refine sx ?_ (λZ V=> ?_) ?_;rotate_left;(focus have aV:=(a.out.sv.grown (aJ V) (λe=>aN (ab e))).cell;clear V;go_simp<;>with_reducible rfl);simp only[bA,bx,bw,br,bo])
     refine dD _ _ Qf rfl ⟨_,none,0,0,rfl⟩ rfl (λR af A ay ag=> ?_) ?_
     ·clear A;have au:=aA 1 _ en R g (a.out.pa.ext af.un) Qd Qd aG;have aX:=G af.un;clear af;go_simp;refine au.mono ?_;intro e aO aF;rw[hy]at aF;obtain⟨aU,u,n,c,rfl,aS,aT⟩:=aF;exact ag _ _ aU ⟨_,_,_,rfl⟩ (λaj a9 c' e=>by injection e with e;simp only[fX,dM,eR,and_true,true_and]at e;obtain⟨rfl,rfl,rfl⟩:=e;exact⟨aS.mono (λb F _=>ax (dm aX.out) F),aT⟩)
     rintro _ ⟨az,ao,c2,rfl⟩;simp only[bA,bx,bw,br,bo];refine cS _ _ Qf rfl ⟨_,0,rfl⟩ Qe (λR V A ay ag=> ?_) ?_
     ·have al:=(A _ (.head _) Qb) az ao c2 rfl;have aP:=(aJ V).size;clear A V;go_simp;exact ag _ _ (aa R _) ⟨_,rfl⟩ (λy e=>by injection e with e;injection e with e;injection e with e;subst e;exact⟨aP,az,ao,c2,aq R _ _,al.1.keep (.of_ext (aa R _)) (λ_ F _=>F)⟩)
     rintro _ ⟨y,rfl⟩;simp only[bA,bx,bw,br,bo];intro a7 ai A;obtain⟨be,aL,aB,aK,aI,aH⟩:=A _ (.head _) y rfl;have al:=(A _ (.tail _ (.head _)) az ao c2 rfl).2;clear A;simp only[ae,aw];have ai:=aJ ai;have ba:=ai.size;have ap:=World.ownsRow.lt a.out.xx.1;have a:=G (a.out.step al ai);have aY:=G (aH.mono (Q:=λb=>Z.heap.size+1<=b/\some b≠Value.ownBlock (.slice none 0 0)) (λb F _=>⟨by omega,λe=>by have:=(ap b e.symm).2;omega⟩));clear ai al aH K J I H;refine eV Jj rfl _ _ rfl (Z.heap.size+1) _ 0 (gR []) rfl a.out.xx.1 y (yX d (.slice aL aB aK)) rfl aI rfl (xD _ _ _ _) Qa Qd Qa ?_;intro aj cap' a6 aD ar aC;have a:=G (a.out.app (Y:=λav=>ik av (Z.heap.size+1) 206 (.slice (some ⟨aj,0,none⟩) 1 cap') [(d, .slice aL aB aK)]) ar (λk e=>(ap k e).1) (a.out.xx.snoc aY.out aD ar aC) λk ac av bg aR o=>o.grown aR (λk e=>by injection e with e;omega));obtain⟨K,J,I,H⟩:=a.out.cells;clear aD ar aC aI ap;go_wp2_with fail;have a:=G (a.out.set Qa 2 (.slice (some ⟨aj,0,none⟩) 1 cap'));obtain⟨am,an⟩:=a.out.fin (r:=gQ f l) (.mk 2 (cV l).t [d] [] []) 2 (ak (cV l).t) (some ⟨aj,0,none⟩) 1 cap' none 0 0 none 0 0 (by unfold gQ;rw[cg ac,then_ok,if_neg (by simp[hlp]),if_neg (by simp[hls]),cZ heq,then_ok,hy,then_ok]) rfl rfl (λo=>⟨by have:=o.rd.mono (Q:=λb=>w.heap.size<b) (λb F _=>by omega);simpa[St.ex]using this, .nil _ _, .nil _ _⟩);simp only[World.setCells,aE,Nat.reduceAdd]at am an;exact bodyPost_ret (v:= .agg #[.int .i64 2, .string (ak (cV l).t), .slice (some ⟨aj,0,none⟩) 1 cap', .slice none 0 0, .slice none 0 0]) (by simp[results,results205,go_sem,am]) rfl an
   |false=>
    go_wp2_with (go_at_call 99;refine(a.out.bad heq).mono ?_;unfold a_;rintro e M ⟨rfl,ad⟩);exact⟨rfl,dI (by unfold gQ;rw[cg ac,then_ok,if_neg (by simp[hlp]),if_neg (by simp[hls]),fp heq,ci]) ad.out⟩
end
end Go.Proofs.YtoedmpgicdekmaaGreatDoor
