/- Parts of the proof. -/
import Derived.Test.YtoedmpgicdekmaaGreatDoorCo05
set_option maxRecDepth 100000
set_option maxHeartbeats 8000000
set_option linter.all false
namespace Go.Proofs.YtoedmpgicdekmaaGreatDoor
open IntKind(i64)
open Go.Proofs.Tryz
section
open Go.RowKit
theorem E7 (f:Nat) (au:fO f) (base g o y:Nat) (nm:List UInt8) (l:List cB) (en:Int) (d:World) (C:Option Addr) (n ax:Nat)
  (F:PA d g l en) (ad:aO d y 122 #[.pointer (some ⟨g,0,none⟩)]) (V:aO d o 206 #[.int i64 5,.string ⟨#[]⟩,.string (Z nm),.string ⟨#[]⟩,.int i64 0,.slice C n ax])
  (aq:base<=d.heap.size) (aF:g<o) (aE:g<y) (al:4*l.length+2<=f)
  (q:List cB) (ag:Int) (am:cF f 1 l=.error (q,ag)):
  Calls prog 248 #[.pointer (some ⟨o,0,none⟩),.pointer (some ⟨y,0,none⟩)] d λe w'=>e=be en q ag/\Fr base g o d w':=by
 have az:=G F;have ai:=G ad;have ah:=G V;have aD:g<d.heap.size:=F.lt;have R:o≠g:=J
 have H:y≠g:=J
 clear F ad V;go_enter func248,ntmps248;refine lr 6 0 [(3,λv=>v=.agg #[.int i64 0,.string ⟨#[]⟩,.string ⟨#[]⟩,.string ⟨#[]⟩,.int i64 0,.slice none 0 0],λ_ _=>False),(5,λv=> ∃af,v=.slice (some ⟨af,0,none⟩) 1 1,λ_ _=>True)] 3 (some g) mixed Qb
  ⟨λ_ _ _ w _=>w,λ_ _ _ w _=>w,trivial⟩ ⟨.inl rfl,.inr λ_ _ _ w _=>w,trivial⟩ ?_
 repeat (refine sx ?_ (λaj a=> ?_) ?_;rotate_left;(focus have aw:=(ah.out.grown (aJ a) (λe=>R (I e))).cell;have av:=(ai.out.grown (aJ a) (λe=>H (I e))).cell;clear a;go_simp<;>with_reducible rfl);simp only[bE,bD,bC,bB,bA])
 refine dL _ _ Qf rfl ⟨_,rfl⟩ rfl (λz A u K ae=> ?_) ?_
 ·clear u;have ap:=au 1 l en z g (az.out.ext A.un) Qd Qd al;have ay:=G A.un;clear A;go_simp;refine ap.mono ?_;intro e aB X;rw[am]at X;obtain⟨ar,rfl⟩:=X;unfold be;intro aG ao;exact⟨ao,rfl,dE (an (ay.out.grownBy _) ar) aq (λk e=>by injection e with e;omega)⟩
 rintro _ rfl;simp only[bE,bD,bC,bB,bA];repeat (refine sx ?_ (λaj a=> ?_) ?_;rotate_left;(focus have aw:=(ah.out.grown (aJ a) (λe=>R (I e))).cell;have av:=(ai.out.grown (aJ a) (λe=>H (I e))).cell;clear a;go_simp<;>with_reducible rfl);simp only[bE,bD,bC,bB,bA])
 refine cU _ _ Qf rfl ⟨_,0,rfl⟩ Qe (λz a u K ae=> ?_) ?_
 ·clear u;go_simp;exact ae _ _ (aa z _) ⟨_,rfl⟩ trivial
 rintro _ ⟨af,rfl⟩;simp only[bE,bD,bC,bB,bA];intro aA aC u;exact(u _ (.tail _ (.head _))).elim
def tokN (g:Nat) (w:World):Nat:=match w.cell? ⟨g,0,none⟩with
 |some (.slice _ n _)=>n
 | _=>0
theorem PA.tokN {a:World} {g:Nat} {l:List cB} {en:Int} (h:PA a g l en):tokN g a=l.length:=by
 obtain⟨o,c,d,_⟩:=h;unfold YtoedmpgicdekmaaGreatDoor.tokN;rw[d.cell];rfl
def J5 (base g px:Nat) (nm:List UInt8) (en:Int) (w:World) (r:PR (List Ex)) (e:Ending) (w':World):Prop:=
 Fr base g px w w'/\match r with
 | .ok (a,q)=>e=.returned (.tuple #[])/\PA w' g q en/\ ∃C n cap,aO w' px 206 #[.int i64 5,.string ⟨#[]⟩,.string (Z nm),.string ⟨#[]⟩,.int i64 0,.slice C n cap]/\dS w' (λb=>base<=b) (.slice C n cap) a
 | .error (q,n)=>e=be en q n
theorem sg (f:Nat) (aM: ∀i,i<=f->fO i) (base g w V:Nat) (nm:List UInt8) (l:List cB) (en:Int) (A:World)
  (aq:PA A g l en) (aK:aO A V 122 #[.pointer (some ⟨g,0,none⟩)]) (aC:aO A w 206 #[.int i64 5,.string ⟨#[]⟩,.string (Z nm),.string ⟨#[]⟩,.int i64 0,.slice none 0 0])
  (aJ:base<=A.heap.size) (aG:g<w) (aF:g<V) (aY:V≠w) (aX:w<base) (aD:V<base) (a1:4*l.length+4<=f+1) (a7:l.length<=100000):
  Calls prog 101 #[.pointer (some ⟨g,0,none⟩),.func (Fn.func 248) #[] #[.pointer (some ⟨w,0,none⟩),.pointer (some ⟨V,0,none⟩)]] A (J5 base g w nm en A (gH (f+1) l)):=by
 have bb:=G aq;have a4:=G aK;have aQ:=G aC;have R:=G (cV g l en mA A aq);clear aq aK aC
 cases hrp:dJ mA l with
 |true=>
  rw[hrp]at R;simp only[if_true]at R;have aw:=G (show gH (f+1) l=.ok ([],l.tail)from by rw[gH,if_pos hrp]);go_enter func101,ntmps101;go_wp2_with (go_at_call 97;refine R.out.mono ?_;rintro e aV ⟨rfl,d,a⟩;have az:=G d;have am:=G a;clear d a R)
  go_end0
  rw[aw.out];exact⟨dE am.out aJ (λk e=>by injection e with e;omega),rfl,az.out,_,_,_,aQ.out.grown am.out (λe=>by injection e with e;omega),.nil _ _⟩
 |false=>
  rw[hrp]at R;simp only[aR,if_false]at R;have aw:=G (show gH (f+1) l=iz f [] l from by rw[gH,if_neg (by rw[hrp];simp)]);have aZ:4*l.length+3<=f:=J
  clear a1;go_enter func101,ntmps101;go_wp2_with (go_at_call 97;refine R.out.mono ?_;rintro e aV ⟨rfl,d,a⟩;have az:=G d;have am:=G a;clear d a R)
  go_loopw [] (λwr=> ∃(k:Nat) (o:List (Ex×Value)) (r:List cB) (C:Option Addr) (n ai:Nat),4*r.length+3<=k/\k<=f/\o.length=n/\n+r.length<=l.length/\Hid (iz k (o.map (·.1)) r=gH (f+1) l)/\Hid (PA wr g r en)/\Hid (aO wr w 206 #[.int i64 5,.string ⟨#[]⟩,.string (Z nm),.string ⟨#[]⟩,.int i64 0,.slice C n ai])/\
   Hid (iJ wr base 206 (.slice C n ai) o)/\Hid (Fr base g w A wr)) (λwr=>tokN g wr)
  case atStart=>exact⟨f,[],l,none,0,0,aZ,ah _,rfl,by omega,G aw.out.symm,az,G (aQ.out.grown am.out (λe=>by injection e with e;omega)),G (sI _ _ _),G (dE am.out aJ (λk e=>by injection e with e;omega))⟩
  case round=>
   obtain⟨k,o,r,C,n,ai,ba,a9,aE,a6,ap,ax,aP,a3,af⟩:=hrel;obtain⟨k,rfl⟩: ∃aW,k=aW+1:=⟨k-1,by omega⟩
   have aT:=G (af.out.blk a4.out aD J J);have aI:base<=wr.heap.size:=by have:=af.out.size;omega
   have aH:4*r.length+2<=k:=J
   have ao:=G (show iz (k+1) (o.map (·.1)) r=(cF k 1 r).then λx q=>if dJ mA q then .ok (o.map (·.1)++[x],q.tail)else(cJ Bv q).then λ_ q=>iz k (o.map (·.1)++[x]) q from by rw[iz])
   cases he:cF k 1 r with
   |error p=>
    obtain⟨q,aN⟩:=p;have I:=G (show gH (f+1) l=.error (q,aN)from by rw[<-ap.out,ao.out,he];rfl);have z:=G (E7 k (aM k J) base g w V nm r en wr C n ai ax.out aT.out aP.out aI aG aF aH q aN he);unfold be at z;go_wp2_with (go_at_call 248;refine z.out.mono ?_;rintro e ae ⟨rfl,u⟩;have y:=G (af.out.trans u);clear u z);exact⟨rfl,by rw[I.out];exact⟨y.out,rfl⟩⟩
   |ok p=>
    obtain⟨x,q⟩:=p;have a8:=(ke k).1 _ _ _ _ he;have z:=G (GZ k (aM k J) base g w V nm r en wr o C n ai ax.out aT.out aP.out a3.out aE aI aG aF aY aX aD aH J x q he)
    cases hr2:dJ mA q with
    |true=>
     have I:=G (show gH (f+1) l=.ok (o.map (·.1)++[x],q.tail)from by rw[<-ap.out,ao.out,he];show(if dJ mA q then(Except.ok (o.map (·.1)++[x],q.tail):PR (List Ex))else _)=_;rw[if_pos hr2])
     go_wp2_with (first
      |(go_at_call 248;refine z.out.mono ?_;rintro e ae ⟨rfl,u,F,aA,ar,au,X,aa⟩;have y:=G (af.out.trans u);have H:=G F;have av:=G X;have ay:=G aa;clear u z F X aa)
      |(go_at_call 97;refine(cV g q en mA _ H.out).mono ?_;rw[hr2];simp only[if_true];rintro e aB ⟨rfl,d,a⟩;have aj:=G d;have ad:=G a;clear d a))
     go_end0
     rw[I.out];have ag:base<=ae.heap.size:=by have:=y.out.size;omega
     have a2:=ay.out.grown ad.out (λk e=>by injection e with e;omega);exact⟨y.out.trans (dE ad.out ag (λk e=>by injection e with e;omega)),rfl,aj.out,_,_,_,av.out.grown ad.out (λe=>by injection e with e;omega),by have:=a2.rd;simpa using this⟩
    |false=>
     cases hcm:dJ Bv q with
     |false=>
      have I:=G (show gH (f+1) l=.error (q,3)from by rw[<-ap.out,ao.out,he];show(if dJ mA q then(Except.ok (o.map (·.1)++[x],q.tail):PR (List Ex))else _)=_;rw[if_neg (by rw[hr2];simp)];unfold cJ;rw[hcm];rfl)
      go_wp2_with (first
       |(go_at_call 248;refine z.out.mono ?_;rintro e ae ⟨rfl,u,F,aA,ar,au,X,aa⟩;have y:=G (af.out.trans u);have H:=G F;clear u z F X aa)
       |(go_at_call 97;refine(cV g q en mA _ H.out).mono ?_;rw[hr2];simp only[aR,if_false];rintro e aB ⟨rfl,d,a⟩;have aj:=G d;have ad:=G a;clear d a H)
       |(go_at_call 99;refine(iq g q en Bv _ aj.out hcm).mono ?_;unfold be;rintro e aU ⟨rfl,aL⟩;have al:=G (an ad.out aL);clear aL))
      have ag:base<=ae.heap.size:=by have:=y.out.size;omega
      exact⟨rfl,by rw[I.out];exact⟨y.out.trans (dE al.out ag (λk e=>by injection e with e;omega)),rfl⟩⟩
     |true=>
      have I:=G (show iz k (o.map (·.1)++[x]) q.tail=gH (f+1) l from by rw[<-ap.out,ao.out,he];show _=(if dJ mA q then(Except.ok (o.map (·.1)++[x],q.tail):PR (List Ex))else _);rw[if_neg (by rw[hr2];simp)];unfold cJ;rw[hcm];rfl);have a5:=bO hcm
      go_wp2_with (first
       |(go_at_call 248;refine z.out.mono ?_;rintro e ae ⟨rfl,u,F,aA,ar,au,X,aa⟩;have y:=G (af.out.trans u);have H:=G F;have av:=G X;have ay:=G aa;clear u z F X aa)
       |(go_at_call 97;refine(cV g q en mA _ H.out).mono ?_;rw[hr2];simp only[aR,if_false];rintro e aB ⟨rfl,d,a⟩;have aj:=G d;have ad:=G a;clear d a H)
       |(go_at_call 99;refine(fl g q en Bv _ aj.out hcm).mono ?_;rintro e aU ⟨rfl,d,a⟩;have aS:=G d;have al:=G (an ad.out a);clear d a))
      have ag:base<=ae.heap.size:=by have:=y.out.size;omega
      go_roundw
      case rel=>exact⟨k,o++[(x,au)],q.tail,aA,n+1,ar,by omega,by omega,by simp[aE],by omega,G (by simpa using I.out),aS,G (av.out.grown al.out (λe=>by injection e with e;omega)),G (by simpa using ay.out.grown al.out (λk e=>by injection e with e;omega)),G (y.out.trans (dE al.out ag (λk e=>by injection e with e;omega)))⟩
      case measure=>rw[ax.out.tokN,aS.out.tokN];omega
theorem tT {u W:World} {g a:Nat} {en:Int} {q:List cB} {R G F A z y:Value} {r:PR Ex} (x:Ex) (k:Int) (so o h:ByteArray) (v:Int) (d:Option Addr) (n c:Nat) (aa:r=.ok (x,q)) (ae:x.k=k) (H:Z x.op=so) (ad:Z x.nm=o) (X:Z x.tx=h) (V:x.v=v) (I:u.heap.size<=a)
  (aj:aO W a 206 #[R,G,F,A,z,y]) (ai:u.grownBy W (some g)) (ah:PA W g q en) (al:g<u.heap.size) (ag:dS W (λb=>a<b) (.slice d n c) x.args):
  (∀i,(W.setCells a 0 [.int i64 k,.string so,.string o,.string h,.int i64 v,.slice d n c]).cell? ⟨a,i,none⟩=(#[.int i64 k,.string so,.string o,.string h,.int i64 v,.slice d n c]:Array Value)[i]?)/\
  rM g en u r (.returned (.agg #[.int i64 k,.string so,.string o,.string h,.int i64 v,.slice d n c])) (W.setCells a 0 [.int i64 k,.string so,.string o,.string h,.int i64 v,.slice d n c]):=by
 subst aa ae H ad X V;have w:=em a [.int i64 x.k,.string (Z x.op),.string (Z x.nm),.string (Z x.tx),.int i64 x.v,.slice d n c] 0 W;refine⟨(aO.put6 aj _ _ _ _ _ _).cell,et ai w I,d,n,c,rfl,ag.keep (.of_grown w λb af e=>by injection e with e;omega) λb af _=>by omega,ah.grown w λk e=>by injection e with e;omega⟩
theorem jB (a:World) (p:Value):let W0:=(a.alloc (.cells #[p] 122)).alloc (.cells #[.int i64 0,.string ⟨#[]⟩,.string ⟨#[]⟩,.string ⟨#[]⟩,.int i64 0,.slice none 0 0] 206)
  au a W0/\aO W0 a.heap.size 122 #[p]/\aO W0 (a.heap.size+1) 206 #[.int i64 0,.string ⟨#[]⟩,.string ⟨#[]⟩,.string ⟨#[]⟩,.int i64 0,.slice none 0 0]:=by
 have d:=aq (a.alloc (.cells #[p] 122)) 206 #[.int i64 0,.string ⟨#[]⟩,.string ⟨#[]⟩,.string ⟨#[]⟩,.int i64 0,.slice none 0 0];rw[World.size_alloc]at d;exact⟨(aa a _).alloc' _,(aq a _ _).alloc _,d⟩
theorem xm (f:Nat) (nm:List UInt8) (l:List cB) (en:Int) (d:World) (g:Nat) (z:PA d g l en) (X:dJ tg l=false) (aa:dJ oT l=false):Calls prog 230 #[.pointer (some ⟨g,0,none⟩),.string (Z nm)] d (rM g en d (cZ (f+1) nm l)):=by
 have aq:=G (show cZ (f+1) nm l=.ok (.mk 3 [] nm [] 0 [],l)from by rw[cZ,if_neg (by rw[X];simp),if_neg (by rw[aa];simp)]);obtain⟨y,w,ae⟩:=jB d (.pointer (some ⟨g,0,none⟩));have ap:=G y;have ao:=G w;have aw:=G ae;have ah:=G (z.ext y);have u:=w.cell;have al:=z.lt;have ad:d.heap.size≠g:=J
 have V:d.heap.size+1≠g:=J
 have az:g≠d.heap.size+1:=J
 clear z y w ae;go_enter func230,ntmps230;go_wp2_with (first|(go_at_call 97;refine(cV g _ en tg _ ah.out).mono ?_;rw[X];simp only[aR,if_false];rintro e ay ⟨rfl,o,a⟩;have ag:=G o;have av:=G (an (ap.out.grownBy _) a);have af:=G (ao.out.grown a (λe=>ad (I e)));have F:=G (aw.out.grown a (λe=>V (I e)));clear u;have u:=af.out.cell;have aj:=F.out.cell;have ai:=F.out.frozen;clear o a ah)|(go_at_call 97;refine(cV g _ en oT _ ag.out).mono ?_;rw[aa];simp only[aR,if_false];rintro e ax ⟨rfl,o,a⟩;have ar:=G o;have au:=G (an av.out a);have am:=G (af.out.grown a (λe=>ad (I e)));have A:=G (F.out.grown a (λe=>V (I e)));clear u;have u:=am.out.cell;have aj:=A.out.cell;have ai:=A.out.frozen;clear o a ag));obtain⟨R,H⟩:=tT (.mk 3 [] nm [] 0 []) 3 ⟨#[]⟩ (Z nm) ⟨#[]⟩ 0 none 0 0 aq.out rfl rfl rfl rfl rfl (ed _) A.out au.out ar.out al (.nil _ _);simp only[World.setCells,aE,Nat.reduceAdd]at R H;exact bodyPost_ret (v:=.agg #[.int i64 3,.string ⟨#[]⟩,.string (Z nm),.string ⟨#[]⟩,.int i64 0,.slice none 0 0]) (by simp[results,results230,go_sem,R]) rfl H
theorem zE (f:Nat) (nm:List UInt8) (l:List cB) (en:Int) (a:World) (g:Nat) (y:PA a g l en) (ag:fO f) (aA:4*l.length+1<=f+1) (o:dJ tg l=true) (q:List cB) (n:Int) (z:cF f 1 l.tail=.error (q,n)):Calls prog 230 #[.pointer (some ⟨g,0,none⟩),.string (Z nm)] a (rM g en a (cZ (f+1) nm l)):=by
 have al:=G (show cZ (f+1) nm l=(cF f 1 l.tail).then λx r=>(cJ we r).then λ_ r=> .ok (.mk 4 [] nm [] 0 [x],r)from by rw[cZ,if_pos o]);have ae:4*l.tail.length+2<=f:=by have:=bO o;omega
 have am:=G (show cZ (f+1) nm l=.error (q,n)from by rw[al.out,z];rfl);obtain⟨w,u,V⟩:=jB a (.pointer (some ⟨g,0,none⟩));have aj:=G w;have ai:=G u;have ar:=G V;have aa:=G (y.ext w);have F:=u.cell;have az:=y.lt;have af:a.heap.size≠g:=J
 have ad:a.heap.size+1≠g:=J
 have ay:g≠a.heap.size+1:=J
 clear y w u V;go_enter func230,ntmps230;go_wp2_with (first|(go_at_call 97;refine(cV g _ en tg _ aa.out).mono ?_;rw[o];simp only[if_true];rintro e av ⟨rfl,X,d⟩;have ao:=G X;have aq:=G (an (aj.out.grownBy _) d);have ah:=G (ai.out.grown d (λe=>af (I e)));have H:=G (ar.out.grown d (λe=>ad (I e)));clear F;have F:=ah.out.cell;have ax:=H.out.cell;have aw:=H.out.frozen;clear X d aa)|(go_at_call 204;refine(ag 1 _ en _ g ao.out Qd Qd ae).mono ?_;intro e au A;rw[z]at A;obtain⟨R,rfl⟩:=A;unfold be;have ap:=G (an aq.out R);clear R));exact⟨rfl,iy am.out ap.out⟩
theorem zF (f:Nat) (nm:List UInt8) (l:List cB) (en:Int) (a:World) (g:Nat) (H:PA a g l en) (ax:fO f) (aQ:4*l.length+1<=f+1) (F:dJ tg l=true) (x:Ex) (q:List cB) (ad:cF f 1 l.tail=.ok (x,q)) (ae:dJ we q=false):Calls prog 230 #[.pointer (some ⟨g,0,none⟩),.string (Z nm)] a (rM g en a (cZ (f+1) nm l)):=by
 have aC:=G (show cZ (f+1) nm l=(cF f 1 l.tail).then λx r=>(cJ we r).then λ_ r=> .ok (.mk 4 [] nm [] 0 [x],r)from by rw[cZ,if_pos F]);have aw:4*l.tail.length+2<=f:=by have:=bO F;omega
 have aD:=G (show cZ (f+1) nm l=.error (q,3)from by rw[aC.out,ad];show(cJ we q).then (λ_ r=>(Except.ok (.mk 4 [] nm [] 0 [x],r):PR Ex))=_;unfold cJ;rw[ae];rfl);obtain⟨V,R,al⟩:=jB a (.pointer (some ⟨g,0,none⟩));have aA:=G V;have az:=G R;have aI:=G al;have ar:=G (H.ext V);have w:=R.cell;have aP:=H.lt;have ah:a.heap.size≠g:=J
 have af:a.heap.size+1≠g:=J
 have aO:g≠a.heap.size+1:=J
 clear H V R al;go_enter func230,ntmps230;go_wp2_with (first|(go_at_call 97;refine(cV g _ en tg _ ar.out).mono ?_;rw[F];simp only[if_true];rintro e au ⟨rfl,am,y⟩;have ap:=G am;have aH:=G (an (aA.out.grownBy _) y);have ao:=G (az.out.grown y (λe=>ah (I e)));have z:=G (aI.out.grown y (λe=>af (I e)));clear w;have w:=ao.out.cell;have aN:=z.out.cell;have aM:=z.out.frozen;clear am y ar)|(go_at_call 204;refine(ax 1 _ en _ g ap.out Qd Qd aw).mono ?_;intro e o ag;rw[ad]at ag;obtain⟨d,A,n,c,rfl,ai,X⟩:=ag;have aL:a.heap.size+2<=au.heap.size:=z.out.lt;have aK:=d.size;have u:=(aa o (.cells #[.int i64 x.k,.string (Z x.op),.string (Z x.nm),.string (Z x.tx),.int i64 x.v,.slice A n c] 206)).alloc' (.cells #[.int i64 4,.string ⟨#[]⟩,.string (Z nm),.string ⟨#[]⟩,.int i64 0,.slice (some ⟨o.heap.size,0,none⟩) 1 1] 206);have aG:=G (an (an aH.out d) (u.grownBy (some g)));have ay:=G ((ao.out.grown d (λe=>ah (I e))).ext u);have aT:=G ((z.out.grown d (λe=>af (I e))).ext u);have aB:=G (aq (o.alloc (.cells #[.int i64 x.k,.string (Z x.op),.string (Z x.nm),.string (Z x.tx),.int i64 x.v,.slice A n c] 206)) 206 #[.int i64 4,.string ⟨#[]⟩,.string (Z nm),.string ⟨#[]⟩,.int i64 0,.slice (some ⟨o.heap.size,0,none⟩) 1 1]);have aj:=(aq o 206 #[.int i64 x.k,.string (Z x.op),.string (Z x.nm),.string (Z x.tx),.int i64 x.v,.slice A n c]).alloc (.cells #[.int i64 4,.string ⟨#[]⟩,.string (Z nm),.string ⟨#[]⟩,.int i64 0,.slice (some ⟨o.heap.size,0,none⟩) 1 1] 206);have aS:=G (uk (P:=λb=>a.heap.size+1<b) aj J (ai.keep (.of_ext u) (λb aR _=>by omega)));have aE:=G (X.ext u);have av:(o.alloc (.cells #[.int i64 x.k,.string (Z x.op),.string (Z x.nm),.string (Z x.tx),.int i64 x.v,.slice A n c] 206)).heap.size≠g:=(by have:=X.lt;rw[World.size_alloc];omega);rw[World.size_alloc]at aB av;clear w;have w:=ay.out.cell;clear d ai X u aj ap)|(go_at_call 99;refine(iq g _ en we _ aE.out ae).mono ?_;unfold be;rintro e aJ ⟨rfl,d⟩;have aF:=G (an aG.out d);clear d));exact⟨rfl,iy aD.out aF.out⟩
theorem Cg (f:Nat) (nm:List UInt8) (l:List cB) (en:Int) (o:World) (g:Nat) (af:PA o g l en) (aH:fO f) (a2:4*l.length+1<=f+1) (V:dJ tg l=true) (x:Ex) (q:List cB) (ah:cF f 1 l.tail=.ok (x,q)) (al:dJ we q=true):Calls prog 230 #[.pointer (some ⟨g,0,none⟩),.string (Z nm)] o (rM g en o (cZ (f+1) nm l)):=by
 have aO:=G (show cZ (f+1) nm l=(cF f 1 l.tail).then λx r=>(cJ we r).then λ_ r=> .ok (.mk 4 [] nm [] 0 [x],r)from by rw[cZ,if_pos V]);have aG:4*l.tail.length+2<=f:=by have:=bO V;omega
 have aP:=G (show cZ (f+1) nm l=.ok (.mk 4 [] nm [] 0 [x],q.tail)from by rw[aO.out,ah];show(cJ we q).then (λ_ r=>(Except.ok (.mk 4 [] nm [] 0 [x],r):PR Ex))=_;unfold cJ;rw[al];rfl);obtain⟨ad,X,ax⟩:=jB o (.pointer (some ⟨g,0,none⟩));have aK:=G ad;have aJ:=G X;have aV:=G ax;have aC:=G (af.ext ad);have z:=X.cell;have aF:=af.lt;have au:o.heap.size≠g:=J
 have R:o.heap.size+1≠g:=J
 have a1:g≠o.heap.size+1:=J
 clear af ad X ax;go_enter func230,ntmps230;go_wp2_with (first|(go_at_call 97;refine(cV g _ en tg _ aC.out).mono ?_;rw[V];simp only[if_true];rintro e aD ⟨rfl,y,a⟩;have aB:=G y;have aT:=G (an (aK.out.grownBy _) a);have ay:=G (aJ.out.grown a (λe=>au (I e)));have A:=G (aV.out.grown a (λe=>R (I e)));clear z;have z:=ay.out.cell;have ao:=A.out.cell;have am:=A.out.frozen;clear y a aC)|(go_at_call 204;refine(aH 1 _ en _ g aB.out Qd Qd aG).mono ?_;intro e d ap;rw[ah]at ap;obtain⟨w,F,n,c,rfl,av,ae⟩:=ap;have aY:o.heap.size+2<=aD.heap.size:=A.out.lt;have aX:=w.size;have u:=(aa d (.cells #[.int i64 x.k,.string (Z x.op),.string (Z x.nm),.string (Z x.tx),.int i64 x.v,.slice F n c] 206)).alloc' (.cells #[.int i64 4,.string ⟨#[]⟩,.string (Z nm),.string ⟨#[]⟩,.int i64 0,.slice (some ⟨d.heap.size,0,none⟩) 1 1] 206);have aS:=G (an (an aT.out w) (u.grownBy (some g)));have aI:=G ((ay.out.grown w (λe=>au (I e))).ext u);have aU:=G ((A.out.grown w (λe=>R (I e))).ext u);have az:=G (aq (d.alloc (.cells #[.int i64 x.k,.string (Z x.op),.string (Z x.nm),.string (Z x.tx),.int i64 x.v,.slice F n c] 206)) 206 #[.int i64 4,.string ⟨#[]⟩,.string (Z nm),.string ⟨#[]⟩,.int i64 0,.slice (some ⟨d.heap.size,0,none⟩) 1 1]);have aw:=(aq d 206 #[.int i64 x.k,.string (Z x.op),.string (Z x.nm),.string (Z x.tx),.int i64 x.v,.slice F n c]).alloc (.cells #[.int i64 4,.string ⟨#[]⟩,.string (Z nm),.string ⟨#[]⟩,.int i64 0,.slice (some ⟨d.heap.size,0,none⟩) 1 1] 206);have aN:=G (uk (P:=λb=>o.heap.size+1<b) aw J (av.keep (.of_ext u) (λb H _=>by omega)));have aA:=G (ae.ext u);have ai:(d.alloc (.cells #[.int i64 x.k,.string (Z x.op),.string (Z x.nm),.string (Z x.tx),.int i64 x.v,.slice F n c] 206)).heap.size≠g:=(by have:=ae.lt;rw[World.size_alloc];omega);rw[World.size_alloc]at az ai;clear z;have z:=aI.out.cell;clear w av ae u aw aB)|(go_at_call 99;refine(fl g _ en we _ aA.out al).mono ?_;rintro e aW ⟨rfl,y,a⟩;have aQ:=G y;have aR:=G (an aS.out a);have ag:=G (aU.out.grown a (λe=>R (I e)));have aL:=G (az.out.grown a (λe=>ai (I e)));have aM:=G (aN.out.keep (.of_grown a λb H e=>by injection e with e;omega) (λb H _=>H));clear ao am;have ao:=ag.out.cell;have am:=ag.out.frozen;have aZ:=aL.out.cell;clear y a aA));obtain⟨aj,ar⟩:=tT (.mk 4 [] nm [] 0 [x]) 4 ⟨#[]⟩ (Z nm) ⟨#[]⟩ 0 (some ⟨d.heap.size,0,none⟩) 1 1 aP.out rfl rfl rfl rfl rfl (ed _) ag.out aR.out aQ.out aF aM.out;simp only[World.setCells,aE,Nat.reduceAdd]at aj ar;exact bodyPost_ret (v:=.agg #[.int i64 4,.string ⟨#[]⟩,.string (Z nm),.string ⟨#[]⟩,.int i64 0,.slice (some ⟨d.heap.size,0,none⟩) 1 1]) (by simp[results,results230,go_sem,aj]) rfl ar
theorem Dl (f:Nat) (nm:List UInt8) (l:List cB) (en:Int) (a:World) (g:Nat) (V:PA a g l en) (ax: ∀i,i<=f->fO i) (aS:f<=400000) (aT:4*l.length+1<=f+1) (ae:dJ tg l=false) (z:dJ oT l=true) (q:List cB) (n:Int) (H:gH f l.tail=.error (q,n)):Calls prog 230 #[.pointer (some ⟨g,0,none⟩),.string (Z nm)] a (rM g en a (cZ (f+1) nm l)):=by
 obtain⟨f,rfl⟩: ∃ay,f=ay+1:=⟨f-1,by have:=bO z;omega⟩
 have aD:=G (show cZ (f+1+1) nm l=(gH (f+1) l.tail).then λaz r=> .ok (.mk 5 [] nm [] 0 az,r)from by rw[cZ,if_neg (by rw[ae];simp),if_pos z]);have aw:4*l.tail.length+4<=f+1:=by have:=bO z;omega
 have aO: ∀(fn:Fn) (first al:Array Value) (a:World),(Instr.makeFunc fn first al).run prog a=.ok (.func fn first al) a:=λ_ _ _ _=>rfl;have aE:=G (show cZ (f+1+1) nm l=.error (q,n)from by rw[aD.out,H];rfl);obtain⟨R,F,aj⟩:=jB a (.pointer (some ⟨g,0,none⟩));have aC:=G R;have aB:=G F;have aK:=G aj;have ar:=G (V.ext R);have u:=F.cell;have aQ:=V.lt;have ag:a.heap.size≠g:=J
 have ad:a.heap.size+1≠g:=J
 have aP:g≠a.heap.size+1:=J
 clear V R F aj;go_enter func230,ntmps230;go_wp2_with (first|(go_at_call 97;refine(cV g _ en tg _ ar.out).mono ?_;rw[ae];simp only[aR,if_false];rintro e aM ⟨rfl,w,d⟩;have ap:=G w;have aJ:=G (an (aC.out.grownBy _) d);have am:=G (aB.out.grown d (λe=>ag (I e)));have X:=G (aK.out.grown d (λe=>ad (I e)));clear u;have u:=am.out.cell;have av:=X.out.cell;have au:=X.out.frozen;clear w d ar)|(go_at_call 97;refine(cV g _ en oT _ ap.out).mono ?_;rw[z];simp only[if_true];rintro e o ⟨rfl,w,d⟩;have ao:=G w;have aI:=G (an aJ.out d);have y:=G (am.out.grown d (λe=>ag (I e)));have A:=G (X.out.grown d (λe=>ad (I e)));clear u;have u:=y.out.cell;have av:=A.out.cell;have au:=A.out.frozen;clear w d ap;have aF:=G (sg f (λi hi=>ax i J) (o.heap.size+1) g o.heap.size a.heap.size nm l.tail en (o.alloc (.cells #[.int i64 5,.string ⟨#[]⟩,.string (Z nm),.string ⟨#[]⟩,.int i64 0,.slice none 0 0] 206)) (ao.out.ext (aa o _)) (y.out.alloc _) (aq o _ _) (by rw[World.size_alloc];exact ah _) (by have:=ao.out.lt;omega) J (by have:=y.out.lt;omega) J (by have:=y.out.lt;omega) aw J);have aU:=G (A.out.alloc (.cells #[.int i64 5,.string ⟨#[]⟩,.string (Z nm),.string ⟨#[]⟩,.int i64 0,.slice none 0 0] 206));have aA:=G (y.out.alloc (.cells #[.int i64 5,.string ⟨#[]⟩,.string (Z nm),.string ⟨#[]⟩,.int i64 0,.slice none 0 0] 206));have aN:a.heap.size+2<=o.heap.size:=A.out.lt;have aH:=G (an aI.out ((aa o (.cells #[.int i64 5,.string ⟨#[]⟩,.string (Z nm),.string ⟨#[]⟩,.int i64 0,.slice none 0 0] 206)).grownBy (some g)));clear u;have u:=aA.out.cell)|(go_at_call 101;refine aF.out.mono ?_;intro e aL af;rw[H]at af;obtain⟨ai,rfl⟩:=af;unfold be;have aG:=G (kN aH.out ai J J);clear ai));exact⟨rfl,iy aE.out aG.out⟩
theorem Fi (f:Nat) (nm:List UInt8) (l:List cB) (en:Int) (a:World) (g:Nat) (ag:PA a g l en) (aG: ∀i,i<=f->fO i) (a5:f<=400000) (a6:4*l.length+1<=f+1) (ao:dJ tg l=false) (F:dJ oT l=true) (z:List Ex) (q:List cB) (al:gH f l.tail=.ok (z,q)):Calls prog 230 #[.pointer (some ⟨g,0,none⟩),.string (Z nm)] a (rM g en a (cZ (f+1) nm l)):=by
 obtain⟨f,rfl⟩: ∃aH,f=aH+1:=⟨f-1,by have:=bO F;omega⟩
 have aN:=G (show cZ (f+1+1) nm l=(gH (f+1) l.tail).then λz r=> .ok (.mk 5 [] nm [] 0 z,r)from by rw[cZ,if_neg (by rw[ao];simp),if_pos F]);have aF:4*l.tail.length+4<=f+1:=by have:=bO F;omega
 have a3: ∀(fn:Fn) (first y:Array Value) (a:World),(Instr.makeFunc fn first y).run prog a=.ok (.func fn first y) a:=λ_ _ _ _=>rfl;have aO:=G (show cZ (f+1+1) nm l=.ok (.mk 5 [] nm [] 0 z,q)from by rw[aN.out,al];rfl);obtain⟨ae,ad,ay⟩:=jB a (.pointer (some ⟨g,0,none⟩));have aK:=G ae;have aJ:=G ad;have aX:=G ay;have aC:=G (ag.ext ae);have u:=ad.cell;have aD:=ag.lt;have au:a.heap.size≠g:=J
 have V:a.heap.size+1≠g:=J
 have a4:g≠a.heap.size+1:=J
 clear ag ae ad ay;go_enter func230,ntmps230;go_wp2_with (first|(go_at_call 97;refine(cV g _ en tg _ aC.out).mono ?_;rw[ao];simp only[aR,if_false];rintro e aZ ⟨rfl,w,d⟩;have aB:=G w;have aV:=G (an (aK.out.grownBy _) d);have az:=G (aJ.out.grown d (λe=>au (I e)));have aj:=G (aX.out.grown d (λe=>V (I e)));clear u;have u:=az.out.cell;have H:=aj.out.cell;have X:=aj.out.frozen;clear w d aC)|(go_at_call 97;refine(cV g _ en oT _ aB.out).mono ?_;rw[F];simp only[if_true];rintro e o ⟨rfl,w,d⟩;have aA:=G w;have aU:=G (an aV.out d);have A:=G (az.out.grown d (λe=>au (I e)));have R:=G (aj.out.grown d (λe=>V (I e)));clear u;have u:=A.out.cell;have H:=R.out.cell;have X:=R.out.frozen;clear w d aB;have aQ:=G (sg f (λi hi=>aG i J) (o.heap.size+1) g o.heap.size a.heap.size nm l.tail en (o.alloc (.cells #[.int i64 5,.string ⟨#[]⟩,.string (Z nm),.string ⟨#[]⟩,.int i64 0,.slice none 0 0] 206)) (aA.out.ext (aa o _)) (A.out.alloc _) (aq o _ _) (by rw[World.size_alloc];exact ah _) (by have:=aA.out.lt;omega) J (by have:=A.out.lt;omega) J (by have:=A.out.lt;omega) aF J);have aW:=G (R.out.alloc (.cells #[.int i64 5,.string ⟨#[]⟩,.string (Z nm),.string ⟨#[]⟩,.int i64 0,.slice none 0 0] 206));have aI:=G (A.out.alloc (.cells #[.int i64 5,.string ⟨#[]⟩,.string (Z nm),.string ⟨#[]⟩,.int i64 0,.slice none 0 0] 206));have a1:a.heap.size+2<=o.heap.size:=R.out.lt;have aT:=G (an aU.out ((aa o (.cells #[.int i64 5,.string ⟨#[]⟩,.string (Z nm),.string ⟨#[]⟩,.int i64 0,.slice none 0 0] 206)).grownBy (some g)));clear u;have u:=aI.out.cell)|(go_at_call 101;refine aQ.out.mono ?_;intro e aY ap;rw[al]at ap;obtain⟨af,rfl,ax,C,n,y,av,aw⟩:=ap;have aS:=G (kN aT.out af J J);have aP:=G ax;have aM:=G (aw.mono (Q:=λb=>a.heap.size+1<b) (λb a7 _=>by omega));have aL:=G av;have ai:=G (af.blk aW.out J V J);clear H X;have H:=ai.out.cell;have X:=ai.out.frozen;have a2:=aL.out.cell;clear af ax av aw));obtain⟨am,ar⟩:=tT (.mk 5 [] nm [] 0 z) 5 ⟨#[]⟩ (Z nm) ⟨#[]⟩ 0 C n y aO.out rfl rfl rfl rfl rfl (ed _) ai.out aS.out aP.out aD aM.out;simp only[World.setCells,aE,Nat.reduceAdd]at am ar;exact bodyPost_ret (v:=.agg #[.int i64 5,.string ⟨#[]⟩,.string (Z nm),.string ⟨#[]⟩,.int i64 0,.slice C n y]) (by simp[results,results230,go_sem,am]) rfl ar
theorem xl (f:Nat) (u:f<=400000) (o: ∀i,i<=f->fO i):jY (f+1):=by
 intro nm l en a g d h
 cases hls:dJ tg l with
 |true=>
  cases hx:cF f 1 l.tail with
  |error p=>exact zE f nm l en a g d (o f (ah _)) h hls p.1 p.2 hx
  |ok p=>
   cases hrs:dJ we p.2 with
   |false=>exact zF f nm l en a g d (o f (ah _)) h hls p.1 p.2 hx hrs
   |true=>exact Cg f nm l en a g d (o f (ah _)) h hls p.1 p.2 hx hrs
 |false=>
  cases hlp:dJ oT l with
  |false=>exact xm f nm l en a g d hls hlp
  |true=>
   cases hx:gH f l.tail with
   |error p=>exact Dl f nm l en a g d o u h hls hlp p.1 p.2 hx
   |ok p=>exact Fi f nm l en a g d o u h hls hlp p.1 p.2 hx
theorem zK (f:Nat) (bO:sF f) (bP: ∀i,i<=f->fO i):fO (f+1):=by
 intro o l en R g z cI cH cg;have a1:=G (aa R (.cells #[.int i64 0,.string ⟨#[]⟩,.string ⟨#[]⟩,.string ⟨#[]⟩,.int i64 0,.slice none 0 0] 206));have b6:=G (aq R 206 #[.int i64 0,.string ⟨#[]⟩,.string ⟨#[]⟩,.string ⟨#[]⟩,.int i64 0,.slice none 0 0]);have bt:=G (z.ext a1.out);have bK:=z.lt;have a8:R.heap.size≠g:=J
 have cL:g≠R.heap.size:=J
 have bM:4*l.length+1<=f:=J
 have bq:=G (show cF (f+1) o l=(dw f l).then λx r=>js f o x r from by rw[cF]);clear z cg;go_enter func204,ntmps204
 cases hp0:dw f l with
 |error p=>
  obtain⟨q,bk⟩:=p;have aF:=G (show cF (f+1) o l=.error (q,bk)from by rw[bq.out,hp0];rfl);go_wp2_with (go_at_call 229;refine(bO l en _ g bt.out bM).mono ?_;intro e w ad;rw[hp0]at ad;obtain⟨af,rfl⟩:=ad;unfold be;have a5:=G (an (a1.out.grownBy _) af);clear af);exact⟨rfl,iy aF.out a5.out⟩
 |ok p=>
  obtain⟨X,bz⟩:=p;have cE:=(ke f).2.2.1 _ _ _ hp0;have bW:=G (show js f o X bz=cF (f+1) o l from by rw[bq.out,hp0];rfl);clear bq;go_wp2_with (go_at_call 229;refine(bO l en _ g bt.out bM).mono ?_;intro e w ad;rw[hp0]at ad;obtain⟨af,bw,a6,bl,rfl,aY,aP⟩:=ad;have cb:=af.size;rw[World.size_alloc]at cb;have y:=aa w (.cells #[.int i64 X.k,.string (Z X.op),.string (Z X.nm),.string (Z X.tx),.int i64 X.v,.slice bw a6 bl] 206);have a5:=G (an (an (a1.out.grownBy (some g)) af) (y.grownBy (some g)));have b5:=G ((b6.out.grown af (λe=>a8 (I e))).ext y);have bS:=G (aq w 206 #[.int i64 X.k,.string (Z X.op),.string (Z X.nm),.string (Z X.tx),.int i64 X.v,.slice bw a6 bl]);have bV:=G (aY.keep (.of_ext y) (Q:=λb=>R.heap.size<b/\b≠w.heap.size) (λb a bI=>⟨by rw[World.size_alloc]at a;omega,by omega⟩));have bY:=G (aP.ext y);have aK:w.heap.size≠g:=(by have:=aP.lt;omega);clear af aY aP y);have ce:R.heap.size<w.heap.size:=J
  have cd:R.heap.size≠w.heap.size:=J
  have cG:w.heap.size≠R.heap.size:=J
  have cK:g≠w.heap.size:=λe=>aK e.symm;clear a1 b6 bt
  go_loopw [] (λwr=> ∃(k:Nat) (x:Ex) (A:Option Addr) (n c:Nat) (r:List cB),4*r.length+1<=k/\k<=f/\Hid (js k o x r=cF (f+1) o l)/\Hid (PA wr g r en)/\Hid (aO wr w.heap.size 206 #[.int i64 x.k,.string (Z x.op),.string (Z x.nm),.string (Z x.tx),.int i64 x.v,.slice A n c])/\Hid (dS wr (λb=>R.heap.size<b/\b≠w.heap.size) (.slice A n c) x.args)/\Hid (aO wr R.heap.size 206 #[.int i64 0,.string ⟨#[]⟩,.string ⟨#[]⟩,.string ⟨#[]⟩,.int i64 0,.slice none 0 0])/\Hid (R.grownBy wr (some g))) (λwr=>tokN g wr)
  case atStart=>exact⟨f,X,bw,a6,bl,bz,by omega,ah _,bW,bY,bS,bV,b5,a5⟩
  case round=>
   clear bW bY bS bV b5 a5;obtain⟨k,x,A,n,c,r,cf,cJ,a4,aH,bm,bp,bv,bu⟩:=hrel;obtain⟨k,rfl⟩: ∃ca,k=ca+1:=⟨k-1,by omega⟩
   have am:=G (fq g r en wr aH.out);have a3:=G (show js (k+1) o x r=if(cX r).k=5/\o<=mX (cX r).t then(cF k (mX (cX r).t+1) r.tail).then λu q=>js k o (.mk 7 (cX r).t [] [] 0 [x,u]) q else .ok (x,r)from by rw[js]);by_cases hgo:(cX r).k=5/\o<=mX (cX r).t
   rotate_left
   ·have aF:=G (show cF (f+1) o l=.ok (x,r)from by rw[<-a4.out,a3.out,if_neg hgo]);clear a3 a4;generalize cX r=t at*;obtain⟨aj,tt,ao,ap⟩:=t;simp only at hgo am;have av:=G (mF tt);generalize mX tt=L at*;by_cases au:aj=5
    ·have bI:L<o:=J
     obtain rfl:aj=5:=au;clear hgo;go_wp2_with (first|(go_at_call 158;refine am.out.mono ?_;rintro e ax ⟨rfl,y⟩;have bG:=dr y;have d:=y.alloc' (.cells #[.int i64 5,.string (Z tt),.int i64 ao,.int i64 ap] 188);have aS:=G (an bu.out (d.grownBy (some g)));have ai:=G (bv.out.ext d);have aD:=G (bm.out.ext d);have bo:=G (aq ax 188 #[.int i64 5,.string (Z tt),.int i64 ao,.int i64 ap]);have aQ:=G (bp.out.keep (.of_ext d) (λ_ a _=>a));have aR:=G (aH.out.ext d);have aV:=aD.out.cell;have ba:=ai.out.cell;have a9:=ai.out.frozen;clear y d am)|(go_at_call 167;refine(av.out _).mono ?_;rintro e bx ⟨rfl,rfl⟩;clear av));obtain⟨aL,aM⟩:=l_ x x.k (Z x.op) (Z x.nm) (Z x.tx) x.v A n c aF.out rfl rfl rfl rfl rfl rfl ai.out aS.out aR.out bK (aQ.out.mono λb a _=>by omega);simp only[World.setCells,aE,Nat.reduceAdd]at aL aM;change bodyPost prog Tryz.f204 _ Exit.ret _ _;exact bodyPost_ret (v:=.agg #[.int i64 x.k,.string (Z x.op),.string (Z x.nm),.string (Z x.tx),.int i64 x.v,.slice A n c]) (by simp[results,results204,go_sem,aL]) rfl aM
    ·have ck:(aj==5)=false:=Qn.2 au;have cN:(aj !=5)=true:=by rw[bne,ck];rfl
     clear hgo;go_wp2_with (first|(go_at_call 158;refine am.out.mono ?_;rintro e ax ⟨rfl,y⟩;have bG:=dr y;have d:=y.alloc' (.cells #[.int i64 aj,.string (Z tt),.int i64 ao,.int i64 ap] 188);have aS:=G (an bu.out (d.grownBy (some g)));have ai:=G (bv.out.ext d);have aD:=G (bm.out.ext d);have bo:=G (aq ax 188 #[.int i64 aj,.string (Z tt),.int i64 ao,.int i64 ap]);have aQ:=G (bp.out.keep (.of_ext d) (λ_ a _=>a));have aR:=G (aH.out.ext d);have aV:=aD.out.cell;have ba:=ai.out.cell;have a9:=ai.out.frozen;clear y d am)|(go_at_call 167;refine(av.out _).mono ?_;rintro e bx ⟨rfl,rfl⟩;clear av));obtain⟨aL,aM⟩:=l_ x x.k (Z x.op) (Z x.nm) (Z x.tx) x.v A n c aF.out rfl rfl rfl rfl rfl rfl ai.out aS.out aR.out bK (aQ.out.mono λb a _=>by omega);simp only[World.setCells,aE,Nat.reduceAdd]at aL aM;change bodyPost prog Tryz.f204 _ Exit.ret _ _;exact bodyPost_ret (v:=.agg #[.int i64 x.k,.string (Z x.op),.string (Z x.nm),.string (Z x.tx),.int i64 x.v,.slice A n c]) (by simp[results,results204,go_sem,aL]) rfl aM
   ·obtain⟨au,bJ⟩:=hgo;obtain⟨⟨aj,tt,ao,ap⟩,q,rfl⟩:=oB au Qd;have bU:=G (show cF (f+1) o l=(cF k (mX tt+1) q).then λu r=>js k o (.mk 7 tt [] [] 0 [x,u]) r from by rw[<-a4.out,a3.out,if_pos ⟨au,bJ⟩];rfl);clear a3 a4;simp only[cX]at au bJ am;obtain rfl:aj=5:=au;have av:=G (mF tt);have cO:=GM tt;have bL:4*q.length+2<=k:=by simp only[ag]at cf;omega
    generalize cl:mX tt=L at*;have bI: ¬L<o:=J
    have cz:wrap64 (L+1)=L+1:=by simp only[wrap64];omega
    have cy:IntKind.i64.wrap (L+1)=L+1:=Qc
    clear cl;go_wp2_with (first|(go_at_call 158;refine am.out.mono ?_;rintro e ax ⟨rfl,y⟩;have bG:=dr y;have d:=y.alloc' (.cells #[.int i64 5,.string (Z tt),.int i64 ao,.int i64 ap] 188);have aS:=G (an bu.out (d.grownBy (some g)));have ai:=G (bv.out.ext d);have aD:=G (bm.out.ext d);have bo:=G (aq ax 188 #[.int i64 5,.string (Z tt),.int i64 ao,.int i64 ap]);have aQ:=G (bp.out.keep (.of_ext d) (λ_ a _=>a));have aR:=G (aH.out.ext d);have aV:=aD.out.cell;have ba:=ai.out.cell;have a9:=ai.out.frozen;clear y d am;obtain⟨cR,cP,a,aW,bb⟩:=aR.out;obtain⟨b,off,rfl,bc,_⟩:=aW.at_ 0 Qe;have cj:=a.cell;have ci:=a.frozen)|(go_at_call 167;refine(av.out _).mono ?_;rintro e bx ⟨rfl,rfl⟩;clear av));all_goals
     first|have bH:=PA.next_a a aW (bb b off rfl Qe) bc (by assumption)|have bH:=PA.next_b a aW (bb b off rfl Qe) bc (by assumption)
     obtain⟨bR,aC⟩:=bH;have a7:ax.heap.size≠g:=by have:=aH.out.lt;omega
     have bZ:=G (an aS.out aC);have b4:=G (ai.out.grown aC (λe=>a8 (I e)));have a2:=G (aD.out.grown aC (λe=>aK (I e)));have bT:=G (bo.out.grown aC (λe=>a7 (I e)));have cr:=G (aQ.out.keep (.of_grown aC λb a e=>by injection e with e;omega) (λb a _=>a));have br:=G bR;clear a aW bb bc cj ci aV ba a9 aC bR;generalize World.setCell _ _ _=aU at*;have cM:g<aU.heap.size:=br.out.lt;have cw:R.heap.size<aU.heap.size:=b4.out.lt;have cC:w.heap.size<aU.heap.size:=a2.out.lt
     cases hpe:cF k (L+1) q with
     |error p=>
      obtain⟨aI,bk⟩:=p;have aF:=G (show cF (f+1) o l=.error (aI,bk)from by rw[bU.out,hpe];rfl);refine cS 9 7 [(6,λv=>v=.agg #[.int i64 0,.string ⟨#[]⟩,.string ⟨#[]⟩,.string ⟨#[]⟩,.int i64 0,.slice none 0 0],λ_ _=>False),(7,λv=> ∃al,v=.slice (some ⟨al,0,none⟩) 2 2,λ_ _=>True)] 6 (some g) mixed Qb ⟨λ_ _ _ z _=>z,λ_ _ _ z _=>z,trivial⟩ ⟨.inl rfl,.inr λ_ _ _ z _=>z,trivial⟩ ?_;repeat (refine sx ?_ (λw V=> ?_) ?_;rotate_left;(focus have cn:=(bT.out.grown (aJ V) (λe=>a7 (I e))).cell;have cm:=(a2.out.grown (aJ V) (λe=>aK (I e))).cell;clear V;go_simp<;>with_reducible rfl);simp only[bE,bD,bC,bB,bA])
      refine dL _ _ Qf rfl ⟨_,rfl⟩ rfl (λH ar F K aB=> ?_) ?_
      ·clear F;have bd:=bP k J (L+1) q en H g (br.out.ext ar.un) J J bL;have bn:=G ar.un;clear ar;go_simp;refine bd.mono ?_;intro e b9 ad;rw[hpe]at ad;obtain⟨af,rfl⟩:=ad;unfold be;intro cQ ch;exact⟨ch,iy aF.out (an bZ.out (an (bn.out.grownBy _) af))⟩
      rintro _ rfl;simp only[bE,bD,bC,bB,bA];refine cU _ _ Qf rfl ⟨_,0,rfl⟩ Qe (λH V F K aB=> ?_) ?_
      ·clear F;go_simp;exact aB _ _ (aa H _) ⟨_,rfl⟩ trivial
      rintro _ ⟨al,rfl⟩;simp only[bE,bD,bC,bB,bA];repeat (refine sx ?_ (λw V=> ?_) ?_;rotate_left;(focus go_simp<;>with_reducible rfl);simp only[bE,bD,bC,bB,bA])
      intro H cx F;exact(F _ (.tail _ (.head _))).elim
     |ok p=>
      obtain⟨u,aI⟩:=p;have cD:=(ke k).1 _ _ _ _ hpe;have cp:=G (show js k o (.mk 7 tt [] [] 0 [x,u]) aI=cF (f+1) o l from by rw[bU.out,hpe];rfl)
      refine cS 9 7 [(6,λv=> ∃A n c,v=.agg #[.int i64 u.k,.string (Z u.op),.string (Z u.nm),.string (Z u.tx),.int i64 u.v,.slice A n c],λv aT=> ∀A n c,v=.agg #[.int i64 u.k,.string (Z u.op),.string (Z u.nm),.string (Z u.tx),.int i64 u.v,.slice A n c]->dS aT (λb=>aU.heap.size<=b) (.slice A n c) u.args/\PA aT g aI en),
        (7,λv=> ∃al,v=.slice (some ⟨al,0,none⟩) 2 2,λv aT=>dS aT (λb=>R.heap.size<b/\b≠w.heap.size) v [x,u])] 6 (some g) mixed Qb
       ⟨λ_ _ _ z az A n c e=>⟨(z A n c e).1.keep (.of_ext az) (λ_ a _=>a),(z A n c e).2.ext az⟩,λ_ _ _ z az=>z.keep (.of_ext az) (λ_ a _=>a),trivial⟩
       ⟨.inl rfl,.inr λ_ _ _ z az=>z.keep (.of_grown az λb a e=>by injection e with e;omega) (λ_ a _=>a),trivial⟩ ?_
      repeat (refine sx ?_ (λw V=> ?_) ?_;rotate_left;(focus have cn:=(bT.out.grown (aJ V) (λe=>a7 (I e))).cell;have cm:=(a2.out.grown (aJ V) (λe=>aK (I e))).cell;clear V;go_simp<;>with_reducible rfl);simp only[bE,bD,bC,bB,bA])
      refine dL _ _ Qf rfl ⟨_,none,0,0,rfl⟩ rfl (λH ar F K aB=> ?_) ?_
      ·clear F;have bd:=bP k J (L+1) q en H g (br.out.ext ar.un) J J bL;have bn:=G ar.un;clear ar;go_simp;refine bd.mono ?_;intro e b9 ad;rw[hpe]at ad;obtain⟨af,A,n,c,rfl,aY,aP⟩:=ad;exact aB _ _ af ⟨_,_,_,rfl⟩ (λcT cu c' e=>by injection e with e;simp only[gu,dT,ff,and_true,true_and]at e;obtain⟨rfl,rfl,rfl⟩:=e;exact⟨aY.mono (λb a _=>ay (dr bn.out) a),aP⟩)
      rintro _ ⟨b7,bF,c2,rfl⟩;simp only[bE,bD,bC,bB,bA];refine cU _ _ Qf rfl ⟨_,0,rfl⟩ Qe (λH V F K aB=> ?_) ?_
      ·have aZ:=(F _ (.head _) Qb) b7 bF c2 rfl;have bN:=aJ V;have cv:=bN.size;have cc:=cr.out.keep (.of_grown bN λb a e=>by injection e with e;omega) (λb a _=>a);clear F V;go_simp;exact aB _ _ (aa H _) ⟨_,rfl⟩ (dS.two (aq H _ _) ⟨by omega,by omega⟩ (cc.keep (.of_ext (aa H _)) (λ_ a _=>a)) (aZ.1.keep (.of_ext (aa H _)) (λb a _=>⟨by omega,by omega⟩)))
      rintro _ ⟨al,rfl⟩;simp only[bE,bD,bC,bB,bA];repeat (refine sx ?_ (λw V=> ?_) ?_;rotate_left;(focus go_simp<;>with_reducible rfl);simp only[bE,bD,bC,bB,bA])
      intro b8 aA F;have bQ:=F _ (.head _);have aZ:=(F _ (.tail _ (.head _)) b7 bF c2 rfl).2;clear F;simp only[ae,aw];have aA:=aJ aA;have aX:=a2.out.grown aA (λe=>aK (I e));have aN:=em w.heap.size [.int i64 7,.string (Z tt),.string ⟨#[]⟩,.string ⟨#[]⟩,.int i64 0,.slice (some ⟨al,0,none⟩) 2 2] 0 b8;have bi:=et (an bZ.out aA) aN (aG ce);have bf:=aO.put6 aX (.int i64 7) (.string (Z tt)) (.string ⟨#[]⟩) (.string ⟨#[]⟩) (.int i64 0) (.slice (some ⟨al,0,none⟩) 2 2);have bj:=(b4.out.grown aA (λe=>a8 (I e))).grown aN (λe=>cd (I e));have bg:=bQ.keep (.of_grown aN λb a e=>a.2 (I e)) (λb a _=>a);have bh:=aZ.grown aN (λk e=>by injection e with e;omega);simp only[World.setCells,aE,Nat.reduceAdd]at bi bf bj bg bh;have aV:=aX.cell;have cA:=aX.frozen;have cs:=G bi;have co:=G bf;have ct:=G bj;have cq:=G bg;have bX:=G bh;clear aA aX aN bi bf bj bg bh bQ aZ;go_wp2_with fail;go_roundw
      case rel=>exact⟨k,.mk 7 tt [] [] 0 [x,u],some ⟨al,0,none⟩,2,2,aI,by omega,by omega,cp,bX,co,cq,ct,cs⟩
      case measure=>rw[aH.out.tokN,bX.out.tokN];simp only[ag];omega
theorem qX: ∀(f:Nat),f<=400000->(∀i,i<=f->fO i)/\sF f/\jY f
 |0,_=>by
  refine⟨λi hi=> ?_,?_,?_⟩
  ·obtain rfl:i=0:=J
   intro n l en o g a _ _ h;omega
  ·intro l en o g a h;omega
  ·intro nm l en o g a h;omega
 |f+1,h=>by
  obtain⟨d,u,y⟩:=qX f J;have w:=zK f u d
  exact⟨λi hi=>by
   rcases fg f i with a|a
   ·obtain rfl:i=f+1:=J
    exact w
   ·exact d i a,zp f (d f (ah _)) u y,xl f J d⟩
theorem Cn {f:Nat} (a:f<=400000):fO f:=(qX f a).1 f (ah _)
theorem zy {f:Nat} (a:f<=400000):jY f:=(qX f a).2.2
def Am (g:Nat) (en:Int) (w:World) (r:PR St) (e:Ending) (w':World):Prop:=
 w.grownBy w' (some g)/\match r with
 | .ok (s,q)=> ∃A n c B m d C k i,e=.returned (.agg #[.int i64 s.k,.string (Z s.nm),.slice A n c,.slice B m d,.slice C k i])/\
   SV.ok w' (λb=>w.heap.size<=b) ⟨s,.slice A n c,.slice B m d,.slice C k i⟩/\PA w' g q en
 | .error (q,n)=>e=be en q n
def II (g:Nat) (en:Int) (w:World) (r:PR (List St)) (e:Ending) (w':World):Prop:=
 w.grownBy w' (some g)/\match r with
 | .ok (b,q)=> ∃A n c,e=.returned (.slice A n c)/\eq w' (λb=>w.heap.size<=b) (.slice A n c) b/\PA w' g q en
 | .error (q,n)=>e=be en q n
theorem dQ {g:Nat} {en:Int} {a w':World} {r:PR St} {q:List cB} {n:Int} (d:r=.error (q,n)) (h:a.grownBy w' (some g)):Am g en a r (be en q n) w':=by
 subst d;exact⟨h,rfl⟩
theorem yb {g:Nat} {en:Int} {a w':World} {r:PR (List St)} {q:List cB} {n:Int} (d:r=.error (q,n)) (h:a.grownBy w' (some g)):II g en a r (be en q n) w':=by
 subst d;exact⟨h,rfl⟩
def nN (f:Nat):Prop:= ∀(l:List cB) (en:Int) (w:World) (g:Nat),PA w g l en->4*l.length+1<=f->Calls prog 103 #[.pointer (some ⟨g,0,none⟩)] w (II g en w (ej f l))
def Hf (f:Nat):Prop:= ∀(l:List cB) (en:Int) (w:World) (g:Nat),PA w g l en->4*l.length+3<=f->Calls prog 203 #[.pointer (some ⟨g,0,none⟩)] w (Am g en w (qg f l))
def Dz (f:Nat):Prop:= ∀(l:List cB) (en:Int) (w:World) (g:Nat),PA w g l en->4*l.length+3<=f->Calls prog 160 #[.pointer (some ⟨g,0,none⟩)] w (Am g en w (ei f l))
theorem Kg:nL prog 78 147 5 96 (.agg #[.int i64 0,.string ⟨#[]⟩,.slice none 0 0,.slice none 0 0,.slice none 0 0]):=⟨underlying78,by kernel_rfl,by rfl,by decide⟩
theorem DW (s:St) (o B C:Option Addr) (n m k c h i:Nat): ∀a∈Ar ⟨s,.slice o n c,.slice B m h,.slice C k i⟩,a.oneCell'=true:=by
 intro a d;simp only[Ar,bV,bF,or_false]at d;rcases d with rfl|rfl|rfl|rfl|rfl<;>rfl
theorem xK (f:Nat) (bd:f<=400000) (aM: ∀i,i<=f->Dz i):nN (f+1):=by
 intro l en F g av bf;have aB:=G av;have bc:=av.lt;have az:=G (show ej (f+1) l=(cJ Ib l).then λ_ r=>fD f [] r from by rw[ej]);clear av;go_enter func103,ntmps103
 cases hlb:dJ Ib l with
 |false=>
  have z:=G (show ej (f+1) l=.error (l,3)from by rw[az.out];unfold cJ;rw[hlb];rfl);go_wp2_with (go_at_call 99;refine(iq g _ en Ib _ aB.out hlb).mono ?_;unfold be;rintro e aU ⟨rfl,u⟩;have am:=G u;clear u);exact⟨rfl,yb z.out am.out⟩
 |true=>
  have z:=G (show fD f [] l.tail=ej (f+1) l from by rw[az.out];unfold cJ;rw[hlb];rfl);have ba:=bO hlb;go_wp2_with (go_at_call 99;refine(fl g _ en Ib _ aB.out hlb).mono ?_;rintro e aU ⟨rfl,o,a⟩;have aQ:=G o;have am:=G a;clear o a);clear az aB
  go_loopw [3] (λaF wr=> ∃(k:Nat) (d:List SV) (r:List cB) (C:Option Addr) (n aj:Nat),aF=.slice C n aj/\d.length=n/\4*r.length+4<=k/\k<=f/\n+r.length<=l.length/\Hid (fD k (d.map (·.s)) r=ej (f+1) l)/\Hid (PA wr g r en)/\
   Hid (jW wr F.heap.size 147 (.slice C n aj) d)/\Hid (F.grownBy wr (some g))) (λaF wr=>tokN g wr)
  case atStart=>exact⟨f,[],l.tail,none,0,0,rfl,rfl,by omega,ah _,by simp only[List.length_tail];omega,z,aQ,G (jW.nil_ _ _ _),am⟩
  case round=>
   clear z aQ am;obtain⟨k,d,r,C,n,aj,rfl,ai,aJ,bb,a9,ax,X,aC,aD⟩:=hrel;obtain⟨k,rfl⟩: ∃aV,k=aV+1:=⟨k-1,by omega⟩
   have aw:=G (show fD (k+1) (d.map (·.s)) r=if dJ Hj r then .ok (d.map (·.s),r.tail)else(ei k r).then λs q=>fD k (d.map (·.s)++[s]) q from by rw[fD])
   cases hrb:dJ Hj r with
   |true=>
    have z:=G (show ej (f+1) l=.ok (d.map (·.s),r.tail)from by rw[<-ax.out,aw.out,if_pos hrb]);go_wp2_with (go_at_call 97;refine(cV g r en Hj _ X.out).mono ?_;rw[hrb];simp only[if_true];rintro e aE ⟨rfl,o,a⟩;have I:=G o;have A:=G (an aD.out a);have H:=G (aC.out.grown a (λk e=>by injection e with e;omega));clear o a);go_ret;rw[z.out];exact⟨A.out,_,_,_,rfl,H.out.rd,I.out⟩
   |false=>
    have aO:=G (show ej (f+1) l=(ei k r).then λs q=>fD k (d.map (·.s)++[s]) q from by rw[<-ax.out,aw.out,if_neg (by rw[hrb];simp)]);have aK:4*r.length+3<=k:=J
    clear ax aw
    cases hps:ei k r with
    |error p=>
     obtain⟨q,aX⟩:=p;have z:=G (show ej (f+1) l=.error (q,aX)from by rw[aO.out,hps];rfl)
     go_wp2_with (first
      |(go_at_call 97;refine(cV g r en Hj _ X.out).mono ?_;rw[hrb];simp only[aR,if_false];rintro e aE ⟨rfl,o,a⟩;have I:=G o;have A:=G (an aD.out a);clear o a X)
      |(go_at_call 160;refine(aM k J r en _ g I.out aK).mono ?_;intro e ad R;rw[hps]at R;obtain⟨u,rfl⟩:=R;unfold be;have w:=G (an A.out u);clear u))
     exact⟨rfl,yb z.out w.out⟩
    |ok p=>
     obtain⟨s,q⟩:=p;have a8:=(qc k).2.2.2 _ _ _ hps;have aZ:=G (show fD k (d.map (·.s)++[s]) q=ej (f+1) l from by rw[aO.out,hps];rfl)
     go_wp2_with (first
      |(go_at_call 97;refine(cV g r en Hj _ X.out).mono ?_;rw[hrb];simp only[aR,if_false];rintro e aE ⟨rfl,o,a⟩;have I:=G o;have A:=G (an aD.out a);have H:=G (aC.out.grown a (λk e=>by injection e with e;omega));clear o a aC)
      |(go_at_call 160;refine(aM k J r en _ g I.out aK).mono ?_;intro e ad R;rw[hps]at R;obtain⟨u,ar,ag,c1,ap,af,c2,ao,ae,al,rfl,aL,aN⟩:=R;have V:=aa ad (.cells #[.int i64 s.k,.string (Z s.nm),.slice ar ag c1,.slice ap af c2,.slice ao ae al] 147);have a7:=A.out.size;have a6:=u.size;have w:=G (an (an A.out u) (V.grownBy (some g)));have aS:=G ((H.out.grown u (λk e=>by injection e with e;omega)).ext V);have au:=World.ownsRow.lt H.out.1;have aY:=G (aL.keep (.of_ext V) (Q:=λb=>F.heap.size<=b/\some b≠Value.ownBlock (.slice C n aj)) (λb bg _=>⟨by omega,λe=>by have:=(au b e.symm).2;omega⟩));have a1:=G (aN.ext V);have a3:=G (aq ad 147 #[.int i64 s.k,.string (Z s.nm),.slice ar ag c1,.slice ap af c2,.slice ao ae al]);have aG:=λk aJ=>(au k aJ).1;clear u aL aN V au H)
      |(at_builtin;refine fj Kg rfl _ _ rfl F.heap.size _ n (fp d) rfl (by have:=aS.out.1;rw[ai]at this;exact this) ad.heap.size (Ar ⟨s,.slice ar ag c1,.slice ap af c2,.slice ao ae al⟩) rfl a3.out rfl (DW _ _ _ _ _ _ _ _ _ _) J Qd w.out.size ?_;intro a5 cap' aT aI y aH;have a2:=G (aS.out.snoc aY.out (by rw[ai];exact aI) y aH);have a4:=G (show F.grownBy aT (some g)from⟨y.os.trans w.out.os,y.tape.trans w.out.tape,y.output.trans w.out.output,ay w.out.size y.size,λi hi aW=>(y.block i (aA hi w.out.size) (λe=>by have:=aG i e.symm;omega)).trans (w.out.block i hi aW)⟩);have aP:=G (a1.out.grown y (λk e=>by have:=aG k e;omega));clear aI y aH))
     go_roundw
     case rel=>exact⟨k,d++[⟨s,.slice ar ag c1,.slice ap af c2,.slice ao ae al⟩],q,some ⟨a5,0,none⟩,n+1,cap',rfl,by simp[ai],by omega,by omega,by omega,G (by simpa using aZ.out),aP,G (by have:=a2.out;rw[ai]at this;exact this),a4⟩
     case measure=>rw[X.out.tokN,aP.out.tokN];omega
theorem eq.one {h:World} {P:Nat->Prop} {d:Nat} {e:TypeId} {s:St} {u b c:Value} (a:aO h d e #[.int i64 s.k,.string (Z s.nm),u,b,c]) (w:P d) (o:SV.ok h P ⟨s,u,b,c⟩):eq h P (.slice (some ⟨d,0,none⟩) 1 1) [s]:=by
 refine .row d 0 1 1 [s] (λ_=>u) (λ_=>b) (λ_=>c) w a.lt rfl (ah _) (by simp[maxLen]) (λi hi=> ?_) (λi hi=> ?_) (λi hi=> ?_) (λi hi=> ?_);all_goals
  have hi:i=0:=by simpa using hi
  subst hi
 ·exact⟨a.cell 0,a.cell 1,a.cell 2,a.cell 3,a.cell 4⟩
 ·exact o.1
 ·exact o.2.1
 ·exact o.2.2
theorem GR {u W:World} {g a:Nat} {en:Int} {q:List cB} {R G F A z:Value} {r:PR St} (s:St) (k:Int) (o:ByteArray) (h:Option Addr) (n c:Nat) (B:Option Addr) (m d:Nat) (C:Option Addr) (i j:Nat) (V:r=.ok (s,q)) (I:s.k=k) (aa:Z s.nm=o) (X:u.heap.size<=a)
  (ag:aO W a 147 #[R,G,F,A,z]) (af:u.grownBy W (some g)) (ae:PA W g q en) (ah:g<u.heap.size) (ad:SV.ok W (λb=>a<b) ⟨s,.slice h n c,.slice B m d,.slice C i j⟩):
  (∀y,(W.setCells a 0 [.int i64 k,.string o,.slice h n c,.slice B m d,.slice C i j]).cell? ⟨a,y,none⟩=(#[.int i64 k,.string o,.slice h n c,.slice B m d,.slice C i j]:Array Value)[y]?)/\
  Am g en u r (.returned (.agg #[.int i64 k,.string o,.slice h n c,.slice B m d,.slice C i j])) (W.setCells a 0 [.int i64 k,.string o,.slice h n c,.slice B m d,.slice C i j]):=by
 subst V I aa;have w:=em a [.int i64 s.k,.string (Z s.nm),.slice h n c,.slice B m d,.slice C i j] 0 W;refine⟨(aO.put5' ag _ _ _ _ _).cell,et af w X,h,n,c,B,m,d,C,i,j,rfl,ad.keep (.of_grown w λb H e=>by injection e with e;omega) λb H _=>by omega,ae.grown w λk e=>by injection e with e;omega⟩
def ik (f:Nat) (l:List cB):PR St:=(jP l).then λnm r=>
 if dJ oT r then(cZ f nm r).then λx r=> .ok (.mk 7 [] [x] [] [],r)
 else if dJ tg r then(cF f 1 r.tail).then λi r=>(cJ we r).then λ_ r=>(cJ FG r).then λ_ r=>(cF f 1 r).then λx r=> .ok (.mk 3 nm [i,x] [] [],r)
 else(cJ FG r).then λ_ r=>(cF f 1 r).then λx r=> .ok (.mk 2 nm [x] [] [],r)
theorem nu (f:Nat) (l:List cB) (o:dJ Ic l=false) (h:dJ wV l=false) (d:dJ nZ l=false) (a:dJ td l=false):ei (f+1) l=(ik f l).then λs r=>(cJ zg r).then λ_ r=> .ok (s,r):=by
 rw[ei,if_neg (by rw[o];simp),if_neg (by rw[h];simp),if_neg (by rw[d];simp),if_neg (by rw[a];simp)];unfold ik
 cases jP l<;>rfl
theorem db {s:List UInt8} {l:List cB} (a:dJ s l=true):cJ s l=.ok ((),l.tail):=by unfold cJ;rw[a];rfl
theorem fH {s:List UInt8} {l:List cB} (a:dJ s l=false):cJ s l=.error (l,3):=by unfold cJ;rw[a];rfl
theorem cj {l:List cB} (a:(cX l).k=1):jP l=.ok ((cX l).t,l.tail):=by unfold jP;rw[if_pos a]
theorem l8 {l:List cB} (a: ¬(cX l).k=1):jP l=.error (l,3):=by unfold jP;rw[if_neg a]
theorem then_ok {a h:Type} (d:a) (r:List cB) (k:a->List cB->PR h):PR.then (.ok (d,r)) k=k d r:=rfl
theorem cv {d a:Type} (q:List cB) (n:Int) (k:d->List cB->PR a):PR.then (.error (q,n)) k=.error (q,n):=rfl
structure SK (w:World) (g:Nat) (en:Int) (pb:Nat) (pc:Array Value) (sb:Nat) (sc:Array Value) (ty:TypeId) (X:World->Prop) (l:List cB) (W:World):Prop where
 pa:PA W g l en
 gr:w.grownBy W (some g)
 rb:aO W pb ty pc
 sv:aO W sb ty sc
 nn:g<w.heap.size/\w.heap.size<=pb/\pb<=sb
 xx:X W
 hx: ∀k,k=g\/k=sb-> ∀V V':World,V.grownBy V' (some k)->X V->X V'
section
variable {w W W':World} {g pb sb:Nat} {en:Int} {pc sc:Array Value} {ty:TypeId} {X:World->Prop} {l l':List cB}
theorem SK.step (K:SK w g en pb pc sb sc ty X l W) (d:PA W' g l' en) (a:W.grownBy W' (some g)):SK w g en pb pc sb sc ty X l' W':=
 ⟨d,an K.gr a,K.rb.grown a (λe=>by have:=K.nn;injection e with e;omega),K.sv.grown a (λe=>by have:=K.nn;injection e with e;omega),K.nn,K.hx _ (.inl rfl) _ _ a K.xx,K.hx⟩
theorem SK.ext (K:SK w g en pb pc sb sc ty X l W) (a:au W W'):SK w g en pb pc sb sc ty X l W':=K.step (K.pa.ext a) (a.grownBy _)
theorem SK.cells (K:SK w g en pb pc sb sc ty X l W):(∀i,W.cell? ⟨pb,i,none⟩=pc[i]?)/\(∀i,W.frozen? ⟨pb,i,none⟩=false)/\(∀i,W.cell? ⟨sb,i,none⟩=sc[i]?)/\ ∀i,W.frozen? ⟨sb,i,none⟩=false:=
 ⟨K.rb.cell,K.rb.frozen,K.sv.cell,K.sv.frozen⟩
theorem SK.yes (K:SK w g en pb pc sb sc ty X l W) {s:List UInt8} (d:dJ s l=true):Calls prog 97 #[.pointer (some ⟨g,0,none⟩),.string (Z s)] W λe W'=>e=.returned (.bool true)/\Hid (SK w g en pb pc sb sc ty X l.tail W'):=by
 have:=cV g l en s W K.pa;rw[d]at this;exact this.mono λe W' a=>⟨a.1,G (K.step a.2.1 a.2.2)⟩
theorem SK.no (K:SK w g en pb pc sb sc ty X l W) {s:List UInt8} (d:dJ s l=false):Calls prog 97 #[.pointer (some ⟨g,0,none⟩),.string (Z s)] W λe W'=>e=.returned (.bool false)/\Hid (SK w g en pb pc sb sc ty X l W'):=by
 have:=cV g l en s W K.pa;rw[d]at this;exact this.mono λe W' a=>⟨a.1,G (K.step a.2.1 a.2.2)⟩
theorem SK.is (K:SK w g en pb pc sb sc ty X l W) {s:List UInt8} {b:Bool} (d:dJ s l=b):Calls prog 157 #[.pointer (some ⟨g,0,none⟩),.string (Z s)] W λe W'=>e=.returned (.bool b)/\Hid (SK w g en pb pc sb sc ty X l W'):=by
 have:=iV g l en s W K.pa;rw[d]at this;exact this.mono λe W' a=>⟨a.1,G (K.ext a.2)⟩
theorem SK.want (K:SK w g en pb pc sb sc ty X l W) {s:List UInt8} (d:dJ s l=true):Calls prog 99 #[.pointer (some ⟨g,0,none⟩),.string (Z s)] W λe W'=>e=.returned (.tuple #[])/\Hid (SK w g en pb pc sb sc ty X l.tail W'):=
 (fl g l en s W K.pa d).mono λe W' a=>⟨a.1,G (K.step a.2.1 a.2.2)⟩
theorem SK.bad (K:SK w g en pb pc sb sc ty X l W) {s:List UInt8} (d:dJ s l=false):Calls prog 99 #[.pointer (some ⟨g,0,none⟩),.string (Z s)] W λe W'=>e=be en l 3/\Hid (w.grownBy W' (some g)):=
 (iq g l en s W K.pa d).mono λe W' a=>⟨a.1,G (an K.gr a.2)⟩
theorem SK.name (K:SK w g en pb pc sb sc ty X l W) (d:(cX l).k=1):Calls prog 100 #[.pointer (some ⟨g,0,none⟩)] W λe W'=>e=.returned (.string (Z (cX l).t))/\Hid (SK w g en pb pc sb sc ty X l.tail W'):=
 (j8 g l en W K.pa d).mono λe W' a=>⟨a.1,G (K.step a.2.1 a.2.2)⟩
theorem SK.noname (K:SK w g en pb pc sb sc ty X l W) (d: ¬(cX l).k=1):Calls prog 100 #[.pointer (some ⟨g,0,none⟩)] W λe W'=>e=be en l 3/\Hid (w.grownBy W' (some g)):=
 (qN g l en W K.pa d).mono λe W' a=>⟨a.1,G (an K.gr a.2)⟩
theorem SK.with (K:SK w g en pb pc sb sc ty X l W) {Y:World->Prop} (z:Y W) (y: ∀k,k=g\/k=sb-> ∀a d:World,a.grownBy d (some k)->Y a->Y d):SK w g en pb pc sb sc ty (λa=>X a/\Y a) l W:=
 ⟨K.pa,K.gr,K.rb,K.sv,K.nn,⟨K.xx,z⟩,λk h a d o u=>⟨K.hx k h a d o u.1,y k h a d o u.2⟩⟩
theorem SK.expr (K:SK w g en pb pc sb sc ty X l W) {f:Nat} (H:fO f) (F:4*l.length+2<=f) {x:Ex} {q:List cB} (h:cF f 1 l=.ok (x,q)):Calls prog 204 #[.pointer (some ⟨g,0,none⟩),.int i64 1] W λe W'=>
  ∃a n c,e=.returned (.agg #[.int i64 x.k,.string (Z x.op),.string (Z x.nm),.string (Z x.tx),.int i64 x.v,.slice a n c])/\
   Hid (SK w g en pb pc sb sc ty (λo=>X o/\dS o (λb=>sb<b) (.slice (some ⟨W'.heap.size,0,none⟩) 1 1) [x]) q (W'.alloc (.cells #[.int i64 x.k,.string (Z x.op),.string (Z x.nm),.string (Z x.tx),.int i64 x.v,.slice a n c] 206))):=by
 have ag:=K;have u:=H 1 l en W g K.pa Qd Qd F;rw[h]at u;refine u.mono λe W' A=> ?_;obtain⟨y,a,n,c,rfl,V,I⟩:=A;have z:=aa W' (.cells #[.int i64 x.k,.string (Z x.op),.string (Z x.nm),.string (Z x.tx),.int i64 x.v,.slice a n c] 206);have ae:=K.sv.lt;have ad:=y.size;refine⟨a,n,c,rfl,G (((K.step I y).ext z).with (uk (aq W' _ _) J (V.keep (.of_ext z) (λb d _=>by omega))) λk af o ah R h=>h.keep (.of_grown R λb d e=>by have:=K.nn;injection e with e;omega) (λb d _=>d))⟩
theorem SK.xerr (K:SK w g en pb pc sb sc ty X l W) {f:Nat} (o:fO f) (h:4*l.length+2<=f) {q:List cB} {n:Int} (u:cF f 1 l=.error (q,n)):Calls prog 204 #[.pointer (some ⟨g,0,none⟩),.int i64 1] W λe W'=>e=be en q n/\Hid (w.grownBy W' (some g)):=by
 have d:=o 1 l en W g K.pa Qd Qd h;rw[u]at d;exact d.mono λe W' a=>⟨a.2,G (an K.gr a.1)⟩
theorem SK.block (K:SK w g en pb pc sb sc ty X l W) {f:Nat} (aa:nN f) (z:4*l.length+1<=f) {x:List St} {q:List cB} (h:ej f l=.ok (x,q)):Calls prog 103 #[.pointer (some ⟨g,0,none⟩)] W λe W'=>
  ∃a n c,e=.returned (.slice a n c)/\Hid (SK w g en pb pc sb sc ty (λo=>X o/\eq o (λb=>sb<b) (.slice a n c) x) q W'):=by
 have u:=aa l en W g K.pa z;rw[h]at u;refine u.mono λe W' y=> ?_;obtain⟨V,a,n,c,rfl,F,R⟩:=y;have I:=K.sv.lt;exact⟨a,n,c,rfl,G ((K.step R V).with (F.mono (λb d _=>by omega)) λk H o ad A h=>h.keep (.of_grown A λb d e=>by have:=K.nn;injection e with e;omega) (λb d _=>d))⟩
theorem SK.berr (K:SK w g en pb pc sb sc ty X l W) {f:Nat} (o:nN f) (h:4*l.length+1<=f) {q:List cB} {n:Int} (u:ej f l=.error (q,n)):Calls prog 103 #[.pointer (some ⟨g,0,none⟩)] W λe W'=>e=be en q n/\Hid (w.grownBy W' (some g)):=by
 have d:=o l en W g K.pa h;rw[u]at d;exact d.mono λe W' a=>⟨a.2,G (an K.gr a.1)⟩
theorem SK.if (K:SK w g en pb pc sb sc ty X l W) {f:Nat} (V:Hf f) (F:4*l.length+3<=f) {s:St} {q:List cB} (u:qg f l=.ok (s,q)):Calls prog 203 #[.pointer (some ⟨g,0,none⟩)] W λe W'=>
  ∃d n c B m a C i j,e=.returned (.agg #[.int i64 s.k,.string (Z s.nm),.slice d n c,.slice B m a,.slice C i j])/\Hid (SK w g en pb pc sb sc ty (λy=>X y/\SV.ok y (λb=>sb<b) ⟨s,.slice d n c,.slice B m a,.slice C i j⟩) q W'):=by
 have z:=V l en W g K.pa F;rw[u]at z;refine z.mono λe W' A=> ?_;obtain⟨aa,d,n,c,B,m,a,C,i,j,rfl,o,R⟩:=A;have I:=K.sv.lt;exact⟨d,n,c,B,m,a,C,i,j,rfl,G ((K.step R aa).with (o.keep ⟨ah _,λ_ _ _=>rfl⟩ (λb h _=>by omega)) λk H y ad o u=>u.keep (.of_grown o λb h e=>by have:=K.nn;injection e with e;omega) (λb h _=>h))⟩
theorem SK.ierr (K:SK w g en pb pc sb sc ty X l W) {f:Nat} (o:Hf f) (h:4*l.length+3<=f) {q:List cB} {n:Int} (u:qg f l=.error (q,n)):Calls prog 203 #[.pointer (some ⟨g,0,none⟩)] W λe W'=>e=be en q n/\Hid (w.grownBy W' (some g)):=by
 have d:=o l en W g K.pa h;rw[u]at d;exact d.mono λe W' a=>⟨a.2,G (an K.gr a.1)⟩
theorem SK.put5 {A z y u o:Value} (K:SK w g en pb pc sb #[A,z,y,u,o] ty X l W) (G:pb<sb) (h b c d e:Value):SK w g en pb pc sb #[h,b,c,d,e] ty X l (W.setCells sb 0 [h,b,c,d,e]):=by
 have a:=em sb [h,b,c,d,e] 0 W;have F:=K.nn;exact⟨K.pa.grown a (λk e=>by injection e with e;omega),et K.gr a J,K.rb.grown a (λe=>by injection e with e;omega),aO.put5' K.sv ..,F,K.hx _ (.inr rfl) _ _ a K.xx,K.hx⟩
theorem SK.set (K:SK w g en pb pc sb sc ty X l W) (h:pb<sb) (i:Nat) (v:Value):SK w g en pb pc sb (sc.setIfInBounds i v) ty X l (W.setCell ⟨sb,i,none⟩ v):=by
 have a:=fK W sb i v;have d:=K.nn;exact⟨K.pa.grown a (λk e=>by injection e with e;omega),et K.gr a J,K.rb.grown a (λe=>by injection e with e;omega),K.sv.set i v,d,K.hx _ (.inr rfl) _ _ a K.xx,K.hx⟩
theorem SK.one (d:PA w g l en) (a:Array Value) (ty:TypeId):SK w g en w.heap.size a w.heap.size a ty (λ_=>True) l (w.alloc (.cells a ty)):=
 ⟨d.ext (aa w _),(aa w _).grownBy _,aq w _ _,aq w _ _,⟨d.lt,ah _,ah _⟩,trivial,λ_ _ _ _ _ _=>trivial⟩
theorem SK.open (K:SK w g en pb pc pb pc ty X l W) (a:Array Value) {Y:World->Prop} (y:X W->Y (W.alloc (.cells a ty))) (u: ∀k,k=g\/k=W.heap.size-> ∀o h:World,o.grownBy h (some k)->Y o->Y h):SK w g en pb pc W.heap.size a ty Y l (W.alloc (.cells a ty)):=by
 have d:=aa W (.cells a ty);have z:=K.rb.lt;have A:=K.nn;exact⟨K.pa.ext d,an K.gr (d.grownBy _),K.rb.ext d,aq W _ _,by omega,y K.xx,u⟩
theorem SK.app (K:SK w g en pb pc sb sc ty X l W) {row:Option Nat} (a:W.grownBy W' row) (d: ∀k,row=some k->sb<k) {Y:World->Prop} (A:Y W') (u: ∀k,k=g\/k=sb-> ∀o h:World,o.grownBy h (some k)->Y o->Y h):SK w g en pb pc sb sc ty Y l W':=by
 have z:=K.nn;refine⟨K.pa.grown a (λk e=>by have:=d k e;omega),⟨a.os.trans K.gr.os,a.tape.trans K.gr.tape,a.output.trans K.gr.output,ay K.gr.size a.size,λi hi y=>(a.block i (aA hi K.gr.size) (λe=>by have:=d i e.symm;omega)).trans (K.gr.block i hi y)⟩,K.rb.grown a (λe=>by have:=d _ e.symm;omega),K.sv.grown a (λe=>by have:=d _ e.symm;omega),z,A,u⟩
end
theorem SK.fin {a W:World} {g V:Nat} {en:Int} {G F A z y:Value} {R:Array Value} {w:World->Prop} {q:List cB} (K:SK a g en a.heap.size #[G,F,A,z,y] V R 147 w q W) {r:PR St} (s:St) (k:Int) (d:ByteArray) (o:Option Addr) (n c:Nat) (B:Option Addr) (m h:Nat) (C:Option Addr) (i j:Nat) (X:r=.ok (s,q)) (I:s.k=k) (aa:Z s.nm=d)
  (H:w W->SV.ok W (λb=>a.heap.size<b) ⟨s,.slice o n c,.slice B m h,.slice C i j⟩):
  (∀u,(W.setCells a.heap.size 0 [.int i64 k,.string d,.slice o n c,.slice B m h,.slice C i j]).cell? ⟨a.heap.size,u,none⟩=(#[.int i64 k,.string d,.slice o n c,.slice B m h,.slice C i j]:Array Value)[u]?)/\
  Am g en a r (.returned (.agg #[.int i64 k,.string d,.slice o n c,.slice B m h,.slice C i j])) (W.setCells a.heap.size 0 [.int i64 k,.string d,.slice o n c,.slice B m h,.slice C i j]):=
 GR s k d o n c B m h C i j X I aa (ah _) K.rb K.gr K.pa K.nn.1 (H K.xx)
section
variable {w W W':World} {g pb sb:Nat} {en:Int} {pc sc:Array Value} {ty:TypeId} {X:World->Prop} {l l':List cB}
theorem SK.open2 {e v:Value} {xs:List Ex} {u:List St} (K:SK w g en w.heap.size pc w.heap.size pc ty (λd=>(True/\dS d (λb=>w.heap.size<b) e xs)/\eq d (λb=>w.heap.size<b) v u) l W) (o:Array Value):
  SK w g en w.heap.size pc W.heap.size o ty (λd=>dS d (λb=>w.heap.size<b/\b≠W.heap.size) e xs/\eq d (λb=>w.heap.size<b/\b≠W.heap.size) v u) l (W.alloc (.cells o ty)):=by
 have G:=K.nn;refine K.open o (λh=>⟨h.1.2.keep (.of_ext (aa W _)) (λb a z=>⟨a,by omega⟩),h.2.keep (.of_ext (aa W _)) (λb a z=>⟨a,by omega⟩)⟩) λk R d F A h=> ?_;have y:dM (λb=>w.heap.size<b/\b≠W.heap.size) d F:=.of_grown A λb a e=>by injection e with e;omega
 exact⟨h.1.keep y (λb a _=>a),h.2.keep y (λb a _=>a)⟩
theorem SK.if1 (K:SK w g en pb pc sb sc ty X l W) {f:Nat} (H:Hf f) (I:4*l.length+3<=f) {s:St} {q:List cB} (o:qg f l=.ok (s,q)):Calls prog 203 #[.pointer (some ⟨g,0,none⟩)] W λe W'=>
  ∃y n c B m u C i j,e=.returned (.agg #[.int i64 s.k,.string (Z s.nm),.slice y n c,.slice B m u,.slice C i j])/\Hid (SK w g en pb pc sb sc ty (λh=>X h/\eq h (λb=>sb<b) (.slice (some ⟨W'.heap.size,0,none⟩) 1 1) [s]) q (W'.alloc (.cells #[.int i64 s.k,.string (Z s.nm),.slice y n c,.slice B m u,.slice C i j] 147))):=by
 refine(K.if H I o).mono λe W' V=> ?_;obtain⟨y,n,c,B,m,u,C,i,j,rfl,k⟩:=V;have k:=k.out;have F:=aa W' (.cells #[.int i64 s.k,.string (Z s.nm),.slice y n c,.slice B m u,.slice C i j] 147);have ad:=k.sv.lt;refine⟨y,n,c,B,m,u,C,i,j,rfl,G ?_⟩;have a:=(k.ext F).with (Y:=λh=>eq h (λb=>sb<b) (.slice (some ⟨W'.heap.size,0,none⟩) 1 1) [s]) (eq.one (aq W' _ _) J (k.xx.2.keep (.of_ext F) (λ_ d _=>d))) λk A h R z o=>o.keep (.of_grown z λb d e=>by have:=K.nn;injection e with e;omega) (λb d _=>d);exact⟨a.pa,a.gr,a.rb,a.sv,a.nn,⟨a.xx.1.1,a.xx.2⟩,λk A h R z o=>⟨K.hx k A h R z o.1,o.2.keep (.of_grown z λb d e=>by have:=K.nn;injection e with e;omega) (λb d _=>d)⟩⟩
end
theorem EI (f:Nat) (al:fO f) (af:nN f) (Z:Hf f):Hf (f+1):=by
 intro l en ae g y aD;have aC:=y.lt;have K:=G (SK.one y #[.int i64 0,.string ⟨#[]⟩,.slice none 0 0,.slice none 0 0,.slice none 0 0] 147);have au:ae.heap.size≠g:=J
 have aB:g≠ae.heap.size:=J
 obtain⟨w,u,o,d⟩:=K.out.cells;clear y;go_enter func203,ntmps203;have ai:4*l.length+2<=f:=J
 cases hx:cF f 1 l with
 |error p=>
  obtain⟨q,ah⟩:=p;go_wp2_with (go_at_call 204;refine(K.out.xerr al ai hx).mono ?_;unfold be;rintro e z ⟨rfl,X⟩);exact⟨rfl,dQ (by rw[qg,hx,cv]) X.out⟩
 |ok p=>
  obtain⟨x,r⟩:=p;have aw:=(ke f).1 _ _ _ _ hx;have aj:4*r.length+1<=f:=J
  go_wp2_with (go_at_call 204;refine(K.out.expr al ai hx).mono ?_;rintro e R ⟨aJ,n,c,rfl,K⟩;clear w u o d;obtain⟨w,u,o,d⟩:=K.out.cells)
  cases a:ej f r with
  |error p=>
   obtain⟨q,ah⟩:=p;go_wp2_with (go_at_call 103;refine(K.out.berr af aj a).mono ?_;unfold be;rintro e z ⟨rfl,X⟩);exact⟨rfl,dQ (by rw[qg,hx,then_ok,a,cv]) X.out⟩
  |ok p=>
   obtain⟨b,aa⟩:=p;have az:=(qc f).1 _ _ _ a;go_wp2_with (go_at_call 103;refine(K.out.block af aj a).mono ?_;rintro e ad ⟨B,m,V,rfl,K⟩;have ap:=K.out.rb.lt;have K:=G (K.out.open2 #[.int i64 4,.string ⟨#[]⟩,.slice (some ⟨R.heap.size,0,none⟩) 1 1,.slice B m V,.slice none 0 0]);clear w u o d;obtain⟨w,u,o,d⟩:=K.out.cells);have ar:ad.heap.size≠g:=J
   have aA:g≠ad.heap.size:=J
   have av:ae.heap.size≠ad.heap.size:=J
   have aq:ad.heap.size≠ae.heap.size:=J
   cases he:dJ FH aa with
   |true=>
    have ay:=bO he;go_wp2_with (go_at_call 97;refine(K.out.yes he).mono ?_;rintro e z ⟨rfl,K⟩;clear w u o d;obtain⟨w,u,o,d⟩:=K.out.cells)
    cases hi:dJ Ic aa.tail with
    |true=>
     have ax:=bO hi;have I:4*aa.tail.tail.length+3<=f:=J
     go_wp2_with (go_at_call 97;refine(K.out.yes hi).mono ?_;rintro e z ⟨rfl,K⟩;clear w u o d;obtain⟨w,u,o,d⟩:=K.out.cells)
     cases hc:qg f aa.tail.tail with
     |error p=>
      obtain⟨q,ah⟩:=p;go_wp2_with (go_at_call 203;refine(K.out.ierr Z I hc).mono ?_;unfold be;rintro e z ⟨rfl,X⟩);exact⟨rfl,dQ (by rw[qg,hx,then_ok,a,then_ok,if_pos he,if_pos hi,hc,cv]) X.out⟩
     |ok p=>
      obtain⟨t,q⟩:=p;go_wp2_with (go_at_call 203;refine(K.out.if1 Z I hc).mono ?_;rintro e ag ⟨aI,ao,c1,aH,an,c2,aG,am,aF,rfl,K⟩;clear w u o d;obtain⟨w,u,o,d⟩:=K.out.cells;have k:=K.out.set J 4 (.slice (some ⟨ag.heap.size,0,none⟩) 1 1);simp only[World.setCells,aE,Nat.reduceAdd,a8,b7,b_]at k;have K:=G k;clear k);obtain⟨A,F⟩:=K.out.fin (r:=qg (f+1) l) (.mk 4 [] [x] b [t]) 4 ⟨#[]⟩ (some ⟨R.heap.size,0,none⟩) 1 1 B m V (some ⟨ag.heap.size,0,none⟩) 1 1 (by rw[qg,hx,then_ok,a,then_ok,if_pos he,if_pos hi,hc,then_ok]) rfl rfl (λy=>⟨y.1.1.mono (λb a _=>a.1),y.1.2.mono (λb a _=>a.1),y.2.mono (λb a _=>by omega)⟩);simp only[World.setCells,aE,Nat.reduceAdd]at A F;exact bodyPost_ret (v:=.agg #[.int i64 4,.string ⟨#[]⟩,.slice (some ⟨R.heap.size,0,none⟩) 1 1,.slice B m V,.slice (some ⟨ag.heap.size,0,none⟩) 1 1]) (by simp[results,results203,go_sem,A]) rfl F
    |false=>
     have I:4*aa.tail.length+1<=f:=J
     have H:=hi;go_wp2_with (go_at_call 97;refine(K.out.no H).mono ?_;rintro e z ⟨rfl,K⟩;clear H;clear w u o d;obtain⟨w,u,o,d⟩:=K.out.cells)
     cases hc:ej f aa.tail with
     |error p=>
      obtain⟨q,ah⟩:=p;go_wp2_with (go_at_call 103;refine(K.out.berr af I hc).mono ?_;unfold be;rintro e z ⟨rfl,X⟩);exact⟨rfl,dQ (by rw[qg,hx,then_ok,a,then_ok,if_pos he,if_neg (by simp[hi]),hc,cv]) X.out⟩
     |ok p=>
      obtain⟨t,q⟩:=p;go_wp2_with (go_at_call 103;refine(K.out.block af I hc).mono ?_;rintro e z ⟨C,i,j,rfl,K⟩;clear w u o d;obtain⟨w,u,o,d⟩:=K.out.cells;have k:=K.out.set J 4 (.slice C i j);simp only[World.setCells,aE,Nat.reduceAdd,a8,b7,b_]at k;have K:=G k;clear k);obtain⟨A,F⟩:=K.out.fin (r:=qg (f+1) l) (.mk 4 [] [x] b t) 4 ⟨#[]⟩ (some ⟨R.heap.size,0,none⟩) 1 1 B m V C i j (by rw[qg,hx,then_ok,a,then_ok,if_pos he,if_neg (by simp[hi]),hc,then_ok]) rfl rfl (λy=>⟨y.1.1.mono (λb a _=>a.1),y.1.2.mono (λb a _=>a.1),y.2.mono (λb a _=>by omega)⟩);simp only[World.setCells,aE,Nat.reduceAdd]at A F;exact bodyPost_ret (v:=.agg #[.int i64 4,.string ⟨#[]⟩,.slice (some ⟨R.heap.size,0,none⟩) 1 1,.slice B m V,.slice C i j]) (by simp[results,results203,go_sem,A]) rfl F
   |false=>
    have H:=he;go_wp2_with (go_at_call 97;refine(K.out.no H).mono ?_;rintro e z ⟨rfl,K⟩;clear H;clear w u o d;obtain⟨w,u,o,d⟩:=K.out.cells);obtain⟨A,F⟩:=K.out.fin (r:=qg (f+1) l) (.mk 4 [] [x] b []) 4 ⟨#[]⟩ (some ⟨R.heap.size,0,none⟩) 1 1 B m V none 0 0 (by rw[qg,hx,then_ok,a,then_ok,if_neg (by simp[he])]) rfl rfl (λy=>⟨y.1.mono (λb a _=>a.1),y.2.mono (λb a _=>a.1),.nil _ _⟩);simp only[World.setCells,aE,Nat.reduceAdd]at A F;exact bodyPost_ret (v:=.agg #[.int i64 4,.string ⟨#[]⟩,.slice (some ⟨R.heap.size,0,none⟩) 1 1,.slice B m V,.slice none 0 0]) (by simp[results,results203,go_sem,A]) rfl F
theorem iJ.lit {w:World} {base:Nat} {x:Ex} {d:Option Addr} {n c:Nat} (a:base<=w.heap.size) (o:dS w (λb=>base<=b) (.slice d n c) x.args):iJ (w.alloc (.cells #[.int i64 x.k,.string (Z x.op),.string (Z x.nm),.string (Z x.tx),.int i64 x.v,.slice d n c] 206)) base 206 (.slice (some ⟨w.heap.size,0,none⟩) 1 1) [(x,.slice d n c)]:=by
 refine⟨World.ownsRow_lit w _ 1 a (by simp[maxLen]) rfl,λp h=> ?_⟩;rw[bR]at h;subst h;exact o.keep (.of_ext (aa w _)) (λb a u=>⟨a,λe=>by have e:b=w.heap.size:=I e;omega⟩)
theorem yn (x:Ex) (h:Option Addr) (n c:Nat): ∀a∈zL x (.slice h n c),a.oneCell'=true:=by
 intro a d;simp only[zL,bV,bF,or_false]at d;rcases d with rfl|rfl|rfl|rfl|rfl|rfl<;>rfl
section
variable {w W W':World} {g pb sb:Nat} {en:Int} {pc sc:Array Value} {ty:TypeId} {X:World->Prop} {l l':List cB}
theorem SK.named (K:SK w g en pb pc sb sc ty X l W) {f:Nat} {nm:List UInt8} (H:jY f) (F:4*l.length+1<=f) {x:Ex} {q:List cB} (h:cZ f nm l=.ok (x,q)):Calls prog 230 #[.pointer (some ⟨g,0,none⟩),.string (Z nm)] W λe W'=>
  ∃a n c,e=.returned (.agg #[.int i64 x.k,.string (Z x.op),.string (Z x.nm),.string (Z x.tx),.int i64 x.v,.slice a n c])/\Hid (SK w g en pb pc sb sc ty (λo=>X o/\dS o (λb=>sb<b) (.slice (some ⟨W'.heap.size,0,none⟩) 1 1) [x]) q (W'.alloc (.cells #[.int i64 x.k,.string (Z x.op),.string (Z x.nm),.string (Z x.tx),.int i64 x.v,.slice a n c] 206))):=by
 have u:=H nm l en W g K.pa F;rw[h]at u;refine u.mono λe W' A=> ?_;obtain⟨y,a,n,c,rfl,V,I⟩:=A;have z:=aa W' (.cells #[.int i64 x.k,.string (Z x.op),.string (Z x.nm),.string (Z x.tx),.int i64 x.v,.slice a n c] 206);have ae:=K.sv.lt;have ad:=y.size;exact⟨a,n,c,rfl,G (((K.step I y).ext z).with (uk (aq W' _ _) J (V.keep (.of_ext z) (λb d _=>by omega))) λk af o ag R h=>h.keep (.of_grown R λb d e=>by have:=K.nn;injection e with e;omega) (λb d _=>d))⟩
theorem SK.nerr (K:SK w g en pb pc sb sc ty X l W) {f:Nat} {nm:List UInt8} (o:jY f) (h:4*l.length+1<=f) {q:List cB} {n:Int} (u:cZ f nm l=.error (q,n)):Calls prog 230 #[.pointer (some ⟨g,0,none⟩),.string (Z nm)] W λe W'=>e=be en q n/\Hid (w.grownBy W' (some g)):=by
 have d:=o nm l en W g K.pa h;rw[u]at d;exact d.mono λe W' a=>⟨a.2,G (an K.gr a.1)⟩
theorem SK.exOwn (K:SK w g en pb pc sb sc ty X l W) {f:Nat} (I:fO f) (z:4*l.length+2<=f) {x:Ex} {q:List cB} (d:cF f 1 l=.ok (x,q)):Calls prog 204 #[.pointer (some ⟨g,0,none⟩),.int i64 1] W λe W'=>
  ∃a n c,e=.returned (.agg #[.int i64 x.k,.string (Z x.op),.string (Z x.nm),.string (Z x.tx),.int i64 x.v,.slice a n c])/\Hid (SK w g en pb pc sb sc ty (λu=>iJ u (sb+1) 206 (.slice (some ⟨W'.heap.size,0,none⟩) 1 1) [(x,.slice a n c)]) q (W'.alloc (.cells #[.int i64 x.k,.string (Z x.op),.string (Z x.nm),.string (Z x.tx),.int i64 x.v,.slice a n c] 206))):=by
 have h:=I 1 l en W g K.pa Qd Qd z;rw[d]at h;refine h.mono λe W' y=> ?_;obtain⟨o,a,n,c,rfl,F,R⟩:=y;have ad:=K.sv.lt;have H:=o.size;have ae:=K.nn;have V:=iJ.lit (x:=x) (base:=sb+1) (w:=W') J (F.mono (λb ag _=>by omega));exact⟨a,n,c,rfl,G (((K.step R o).ext (aa W' _)).app ⟨rfl,rfl,rfl,ah _,λ_ _ _=>rfl⟩ (row:=none) (λk e=>by cases e) V λk af u ai A d=>d.grown A (λk e=>by injection e with e;omega))⟩
end
theorem uG (f:Nat) (aF:fO f) (a9:jY f) (l:List cB) (en:Int) (ao:World) (g:Nat) (d:PA ao g l en) (bG:4*l.length+2<=f):Calls prog 205 #[.pointer (some ⟨g,0,none⟩)] ao (Am g en ao (ik f l)):=by
 have bF:=d.lt;have K:=G (SK.one d #[.int i64 0,.string ⟨#[]⟩,.slice none 0 0,.slice none 0 0,.slice none 0 0] 147);have bo:ao.heap.size≠g:=J
 have bz:g≠ao.heap.size:=J
 obtain⟨V,R,F,A⟩:=K.out.cells;clear d;go_enter func205,ntmps205;by_cases ag:(cX l).k=1
 rotate_left
 ·go_wp2_with (go_at_call 100;refine(K.out.noname ag).mono ?_;unfold be;rintro e X ⟨rfl,ah⟩);exact⟨rfl,dQ (by unfold ik;rw[l8 ag,cv]) ah.out⟩
 have br:=jv (l:=l) (by rw[ag];decide);go_wp2_with (go_at_call 100;refine(K.out.name ag).mono ?_;rintro e af ⟨rfl,K⟩;have bm:=K.out.rb.lt;have K:=G (K.out.open (Y:=λaB=>iJ aB (af.heap.size+1) 206 (.slice none 0 0) []) #[.int i64 2,.string (Z (cX l).t),.slice none 0 0,.slice none 0 0,.slice none 0 0] (λ_=>sI _ _ _) λ_ _ _ _ _ _=>sI _ _ _);have aR:af.heap.size≠g:=J;have bx:g≠af.heap.size:=J;have bp:ao.heap.size≠af.heap.size:=J;have bn:af.heap.size≠ao.heap.size:=J;clear V R F A;obtain⟨V,R,F,A⟩:=K.out.cells)
 cases hlp:dJ oT l.tail with
 |true=>
  have a7:4*l.tail.length+1<=f:=J
  go_wp2_with (go_at_call 157;refine(K.out.is hlp).mono ?_;rintro e X ⟨rfl,K⟩;clear V R F A;obtain⟨V,R,F,A⟩:=K.out.cells)
  cases w:cZ f (cX l).t l.tail with
  |error p=>
   obtain⟨q,a1⟩:=p;go_wp2_with (go_at_call 230;refine(K.out.nerr a9 a7 w).mono ?_;unfold be;rintro e X ⟨rfl,ah⟩);exact⟨rfl,dQ (by unfold ik;rw[cj ag,then_ok,if_pos hlp,w,cv]) ah.out⟩
  |ok p=>
   obtain⟨x,q⟩:=p;go_wp2_with (go_at_call 230;refine(K.out.named a9 a7 w).mono ?_;rintro e a5 ⟨o,n,c,rfl,K⟩;clear V R F A;obtain⟨V,R,F,A⟩:=K.out.cells);obtain⟨ar,au⟩:=K.out.fin (r:=ik f l) (.mk 7 [] [x] [] []) 7 ⟨#[]⟩ (some ⟨a5.heap.size,0,none⟩) 1 1 none 0 0 none 0 0 (by unfold ik;rw[cj ag,then_ok,if_pos hlp,w,then_ok]) rfl rfl (λd=>⟨d.2.mono (λb z _=>by omega),.nil _ _,.nil _ _⟩);simp only[World.setCells,aE,Nat.reduceAdd]at ar au;exact bodyPost_ret (v:=.agg #[.int i64 7,.string ⟨#[]⟩,.slice (some ⟨a5.heap.size,0,none⟩) 1 1,.slice none 0 0,.slice none 0 0]) (by simp[results,results205,go_sem,ar]) rfl au
 |false=>
  go_wp2_with (go_at_call 157;refine(K.out.is hlp).mono ?_;rintro e X ⟨rfl,K⟩;clear V R F A;obtain⟨V,R,F,A⟩:=K.out.cells)
  cases hls:dJ tg l.tail with
  |true=>
   have bu:=bO hls;have a6:4*l.tail.tail.length+2<=f:=J
   go_wp2_with (go_at_call 97;refine(K.out.yes hls).mono ?_;rintro e X ⟨rfl,K⟩;clear V R F A;obtain⟨V,R,F,A⟩:=K.out.cells)
   cases w:cF f 1 l.tail.tail with
   |error p=>
    obtain⟨q,a1⟩:=p;go_wp2_with (go_at_call 204;refine(K.out.xerr aF a6 w).mono ?_;unfold be;rintro e X ⟨rfl,ah⟩);exact⟨rfl,dQ (by unfold ik;rw[cj ag,then_ok,if_neg (by simp[hlp]),if_pos hls,w,cv]) ah.out⟩
   |ok p=>
    obtain⟨x,r⟩:=p;have bq:=(ke f).1 _ _ _ _ w;go_wp2_with (go_at_call 204;refine(K.out.exOwn aF a6 w).mono ?_;rintro e a4 ⟨o,n,c,rfl,K⟩;clear V R F A;obtain⟨V,R,F,A⟩:=K.out.cells;have k:=(K.out.set J 0 (.int i64 3)).set J 2 (.slice (some ⟨a4.heap.size,0,none⟩) 1 1);simp only[World.setCells,aE,Nat.reduceAdd,a8,b7,b_]at k;have K:=G k;clear k)
    cases hrs:dJ we r with
    |true=>
     have bw:=bO hrs;go_wp2_with (go_at_call 99;refine(K.out.want hrs).mono ?_;rintro e X ⟨rfl,K⟩;clear V R F A;obtain⟨V,R,F,A⟩:=K.out.cells)
     cases heq:dJ FG r.tail with
     |true=>
      have bv:=bO heq;have aL:4*r.tail.tail.length+2<=f:=J
      go_wp2_with (go_at_call 99;refine(K.out.want heq).mono ?_;rintro e al ⟨rfl,K⟩;clear V R F A;obtain⟨V,R,F,A⟩:=K.out.cells)
      cases hy:cF f 1 r.tail.tail with
      |error p=>
       obtain⟨q,a1⟩:=p;refine cS 5 8 [(3,λv=>v=.agg #[.int i64 0,.string ⟨#[]⟩,.string ⟨#[]⟩,.string ⟨#[]⟩,.int i64 0,.slice none 0 0],λ_ _=>False),(4,λv=> ∃u,v=.slice (some ⟨u,0,none⟩) 1 1,λ_ _=>True)] 3 (some g) mixed Qb ⟨λ_ _ _ d _=>d,λ_ _ _ d _=>d,trivial⟩ ⟨.inl rfl,.inr λ_ _ _ d _=>d,trivial⟩ ?_;repeat (refine sx ?_ (λaf ad=> ?_) ?_;rotate_left;(focus have aZ:=(K.out.sv.grown (aJ ad) (λe=>aR (I e))).cell;clear ad;go_simp<;>with_reducible rfl);simp only[bE,bD,bC,bB,bA])
       refine dL _ _ Qf rfl ⟨_,rfl⟩ rfl (λH ai y aC aj=> ?_) ?_
       ·clear y;have aA:=((K.out.ext ai.un).xerr aF aL hy)
        clear ai;go_simp;refine aA.mono ?_;unfold be;rintro e aS ⟨rfl,ah⟩;intro bk aU;exact⟨aU,dQ (by unfold ik;rw[cj ag,then_ok,if_neg (by simp[hlp]),if_pos hls,w,then_ok,db hrs,then_ok,db heq,then_ok,hy,cv]) ah.out⟩
       rintro _ rfl;simp only[bE,bD,bC,bB,bA];refine cU _ _ Qf rfl ⟨_,0,rfl⟩ Qe (λH ad y aC aj=> ?_) ?_
       ·clear y;go_simp;exact aj _ _ (aa H _) ⟨_,rfl⟩ trivial
       rintro _ ⟨u,rfl⟩;simp only[bE,bD,bC,bB,bA];intro H bg y;exact(y _ (.tail _ (.head _))).elim
      |ok p=>
       obtain⟨a,q⟩:=p;have bi:g<al.heap.size:=K.out.pa.lt;have bh:af.heap.size<al.heap.size:=K.out.sv.lt
       refine cS 5 8 [(3,λv=> ∃o n c,v=.agg #[.int i64 a.k,.string (Z a.op),.string (Z a.nm),.string (Z a.tx),.int i64 a.v,.slice o n c],λv X=> ∀o n c,v=.agg #[.int i64 a.k,.string (Z a.op),.string (Z a.nm),.string (Z a.tx),.int i64 a.v,.slice o n c]->dS X (λb=>al.heap.size<=b) (.slice o n c) a.args/\PA X g q en),
         (4,λv=> ∃u,v=.slice (some ⟨u,0,none⟩) 1 1,λv X=> ∀u,v=.slice (some ⟨u,0,none⟩) 1 1->al.heap.size<=u/\ ∃o n c,aO X u 206 #[.int i64 a.k,.string (Z a.op),.string (Z a.nm),.string (Z a.tx),.int i64 a.v,.slice o n c]/\dS X (λb=>al.heap.size<=b) (.slice o n c) a.args)] 3 (some g) mixed Qb ⟨λ_ _ _ d w o n c e=>⟨(d o n c e).1.keep (.of_ext w) (λ_ z _=>z),(d o n c e).2.ext w⟩,λ_ _ _ d w u e=>let⟨q0,o,n,c,q1,q2⟩:=d u e;⟨q0,o,n,c,q1.ext w,q2.keep (.of_ext w) (λ_ z _=>z)⟩,trivial⟩
        ⟨.inl rfl,.inr λ_ _ _ d w u e=>let⟨q0,o,n,c,q1,q2⟩:=d u e;⟨q0,o,n,c,q1.grown w (λe=>by injection e with e;omega),q2.keep (.of_grown w λb z e=>by injection e with e;omega) (λ_ z _=>z)⟩,trivial⟩ ?_
       repeat (refine sx ?_ (λaf ad=> ?_) ?_;rotate_left;(focus have aZ:=(K.out.sv.grown (aJ ad) (λe=>aR (I e))).cell;clear ad;go_simp<;>with_reducible rfl);simp only[bE,bD,bC,bB,bA])
       refine dL _ _ Qf rfl ⟨_,none,0,0,rfl⟩ rfl (λH ai y aC aj=> ?_) ?_
       ·clear y;have aA:=aF 1 _ en H g (K.out.pa.ext ai.un) Qd Qd aL;have a2:=G ai.un;clear ai;go_simp;refine aA.mono ?_;intro e aS aK;rw[hy]at aK;obtain⟨aY,o,n,c,rfl,aW,aX⟩:=aK;exact aj _ _ aY ⟨_,_,_,rfl⟩ (λan bd c' e=>by injection e with e;simp only[gu,dT,ff,and_true,true_and]at e;obtain⟨rfl,rfl,rfl⟩:=e;exact⟨aW.mono (λb z _=>ay (dr a2.out) z),aX⟩)
       rintro _ ⟨aD,av,c2,rfl⟩;simp only[bE,bD,bC,bB,bA];refine cU _ _ Qf rfl ⟨_,0,rfl⟩ Qe (λH ad y aC aj=> ?_) ?_
       ·have ap:=(y _ (.head _) Qb) aD av c2 rfl;have aT:=(aJ ad).size;clear y ad;go_simp;exact aj _ _ (aa H _) ⟨_,rfl⟩ (λu e=>by injection e with e;injection e with e;injection e with e;subst e;exact⟨aT,aD,av,c2,aq H _ _,ap.1.keep (.of_ext (aa H _)) (λ_ z _=>z)⟩)
       rintro _ ⟨u,rfl⟩;simp only[bE,bD,bC,bB,bA];intro bc am y;obtain⟨bj,aQ,aG,aP,aN,aM⟩:=y _ (.head _) u rfl;have ap:=(y _ (.tail _ (.head _)) aD av c2 rfl).2;clear y;simp only[ae,aw];have am:=aJ am;have bf:=am.size;have ax:=World.ownsRow.lt K.out.xx.1;have K:=G (K.out.step ap am);have a3:=G (aM.mono (Q:=λb=>af.heap.size+1<=b/\some b≠Value.ownBlock (.slice (some ⟨a4.heap.size,0,none⟩) 1 1)) (λb z _=>⟨by omega,λe=>by have:=(ax b e.symm).2;omega⟩));clear am ap aM V R F A;refine fj JC rfl _ _ rfl (af.heap.size+1) _ 1 (il [(x,.slice o n c)]) rfl K.out.xx.1 u (zL a (.slice aQ aG aP)) rfl aN rfl (yn _ _ _ _) J Qd J ?_;intro an cap' bb aI az aH;have K:=G (K.out.app (Y:=λaB=>iJ aB (af.heap.size+1) 206 (.slice (some ⟨an,0,none⟩) 2 cap') [(x,.slice o n c),(a,.slice aQ aG aP)]) az (λk e=>(ax k e).1) (K.out.xx.snoc a3.out aI az aH) λk ag aB bl aV d=>d.grown aV (λk e=>by injection e with e;omega));obtain⟨V,R,F,A⟩:=K.out.cells;clear aI az aH aN ax;go_wp2_with fail;have K:=G (K.out.set J 2 (.slice (some ⟨an,0,none⟩) 2 cap'));obtain⟨ar,au⟩:=K.out.fin (r:=ik f l) (.mk 3 (cX l).t [x,a] [] []) 3 (Z (cX l).t) (some ⟨an,0,none⟩) 2 cap' none 0 0 none 0 0 (by unfold ik;rw[cj ag,then_ok,if_neg (by simp[hlp]),if_pos hls,w,then_ok,db hrs,then_ok,db heq,then_ok,hy,then_ok]) rfl rfl (λd=>⟨by have:=d.rd.mono (Q:=λb=>ao.heap.size<b) (λb z _=>by omega);simpa[St.ex]using this,.nil _ _,.nil _ _⟩);simp only[World.setCells,aE,Nat.reduceAdd]at ar au;exact bodyPost_ret (v:=.agg #[.int i64 3,.string (Z (cX l).t),.slice (some ⟨an,0,none⟩) 2 cap',.slice none 0 0,.slice none 0 0]) (by simp[results,results205,go_sem,ar]) rfl au
     |false=>
      go_wp2_with (go_at_call 99;refine(K.out.bad heq).mono ?_;unfold be;rintro e X ⟨rfl,ah⟩);exact⟨rfl,dQ (by unfold ik;rw[cj ag,then_ok,if_neg (by simp[hlp]),if_pos hls,w,then_ok,db hrs,then_ok,fH heq,cv]) ah.out⟩
    |false=>
     go_wp2_with (go_at_call 99;refine(K.out.bad hrs).mono ?_;unfold be;rintro e X ⟨rfl,ah⟩);exact⟨rfl,dQ (by unfold ik;rw[cj ag,then_ok,if_neg (by simp[hlp]),if_pos hls,w,then_ok,fH hrs,cv]) ah.out⟩
  |false=>
   have ba:=hls;go_wp2_with (go_at_call 97;refine(K.out.no ba).mono ?_;rintro e X ⟨rfl,K⟩;clear ba;clear V R F A;obtain⟨V,R,F,A⟩:=K.out.cells)
   cases heq:dJ FG l.tail with
   |true=>
    have bt:=bO heq;have aL:4*l.tail.tail.length+2<=f:=J
    go_wp2_with (go_at_call 99;refine(K.out.want heq).mono ?_;rintro e al ⟨rfl,K⟩;clear V R F A;obtain⟨V,R,F,A⟩:=K.out.cells)
    cases hy:cF f 1 l.tail.tail with
    |error p=>
     obtain⟨q,a1⟩:=p;refine cS 5 8 [(3,λv=>v=.agg #[.int i64 0,.string ⟨#[]⟩,.string ⟨#[]⟩,.string ⟨#[]⟩,.int i64 0,.slice none 0 0],λ_ _=>False),(4,λv=> ∃u,v=.slice (some ⟨u,0,none⟩) 1 1,λ_ _=>True)] 3 (some g) mixed Qb ⟨λ_ _ _ d _=>d,λ_ _ _ d _=>d,trivial⟩ ⟨.inl rfl,.inr λ_ _ _ d _=>d,trivial⟩ ?_;repeat (refine sx ?_ (λaf ad=> ?_) ?_;rotate_left;(focus have aZ:=(K.out.sv.grown (aJ ad) (λe=>aR (I e))).cell;clear ad;go_simp<;>with_reducible rfl);simp only[bE,bD,bC,bB,bA])
     refine dL _ _ Qf rfl ⟨_,rfl⟩ rfl (λH ai y aC aj=> ?_) ?_
     ·clear y;have aA:=((K.out.ext ai.un).xerr aF aL hy)
      clear ai;go_simp;refine aA.mono ?_;unfold be;rintro e aS ⟨rfl,ah⟩;intro bk aU;exact⟨aU,dQ (by unfold ik;rw[cj ag,then_ok,if_neg (by simp[hlp]),if_neg (by simp[hls]),db heq,then_ok,hy,cv]) ah.out⟩
     rintro _ rfl;simp only[bE,bD,bC,bB,bA];refine cU _ _ Qf rfl ⟨_,0,rfl⟩ Qe (λH ad y aC aj=> ?_) ?_
     ·clear y;go_simp;exact aj _ _ (aa H _) ⟨_,rfl⟩ trivial
     rintro _ ⟨u,rfl⟩;simp only[bE,bD,bC,bB,bA];intro H bg y;exact(y _ (.tail _ (.head _))).elim
    |ok p=>
     obtain⟨a,q⟩:=p;have bi:g<al.heap.size:=K.out.pa.lt;have bh:af.heap.size<al.heap.size:=K.out.sv.lt
     refine cS 5 8 [(3,λv=> ∃o n c,v=.agg #[.int i64 a.k,.string (Z a.op),.string (Z a.nm),.string (Z a.tx),.int i64 a.v,.slice o n c],λv X=> ∀o n c,v=.agg #[.int i64 a.k,.string (Z a.op),.string (Z a.nm),.string (Z a.tx),.int i64 a.v,.slice o n c]->dS X (λb=>al.heap.size<=b) (.slice o n c) a.args/\PA X g q en),
       (4,λv=> ∃u,v=.slice (some ⟨u,0,none⟩) 1 1,λv X=> ∀u,v=.slice (some ⟨u,0,none⟩) 1 1->al.heap.size<=u/\ ∃o n c,aO X u 206 #[.int i64 a.k,.string (Z a.op),.string (Z a.nm),.string (Z a.tx),.int i64 a.v,.slice o n c]/\dS X (λb=>al.heap.size<=b) (.slice o n c) a.args)] 3 (some g) mixed Qb ⟨λ_ _ _ d w o n c e=>⟨(d o n c e).1.keep (.of_ext w) (λ_ z _=>z),(d o n c e).2.ext w⟩,λ_ _ _ d w u e=>let⟨q0,o,n,c,q1,q2⟩:=d u e;⟨q0,o,n,c,q1.ext w,q2.keep (.of_ext w) (λ_ z _=>z)⟩,trivial⟩
      ⟨.inl rfl,.inr λ_ _ _ d w u e=>let⟨q0,o,n,c,q1,q2⟩:=d u e;⟨q0,o,n,c,q1.grown w (λe=>by injection e with e;omega),q2.keep (.of_grown w λb z e=>by injection e with e;omega) (λ_ z _=>z)⟩,trivial⟩ ?_
     repeat (refine sx ?_ (λaf ad=> ?_) ?_;rotate_left;(focus have aZ:=(K.out.sv.grown (aJ ad) (λe=>aR (I e))).cell;clear ad;go_simp<;>with_reducible rfl);simp only[bE,bD,bC,bB,bA])
     refine dL _ _ Qf rfl ⟨_,none,0,0,rfl⟩ rfl (λH ai y aC aj=> ?_) ?_
     ·clear y;have aA:=aF 1 _ en H g (K.out.pa.ext ai.un) Qd Qd aL;have a2:=G ai.un;clear ai;go_simp;refine aA.mono ?_;intro e aS aK;rw[hy]at aK;obtain⟨aY,o,n,c,rfl,aW,aX⟩:=aK;exact aj _ _ aY ⟨_,_,_,rfl⟩ (λan bd c' e=>by injection e with e;simp only[gu,dT,ff,and_true,true_and]at e;obtain⟨rfl,rfl,rfl⟩:=e;exact⟨aW.mono (λb z _=>ay (dr a2.out) z),aX⟩)
     rintro _ ⟨aD,av,c2,rfl⟩;simp only[bE,bD,bC,bB,bA];refine cU _ _ Qf rfl ⟨_,0,rfl⟩ Qe (λH ad y aC aj=> ?_) ?_
     ·have ap:=(y _ (.head _) Qb) aD av c2 rfl;have aT:=(aJ ad).size;clear y ad;go_simp;exact aj _ _ (aa H _) ⟨_,rfl⟩ (λu e=>by injection e with e;injection e with e;injection e with e;subst e;exact⟨aT,aD,av,c2,aq H _ _,ap.1.keep (.of_ext (aa H _)) (λ_ z _=>z)⟩)
     rintro _ ⟨u,rfl⟩;simp only[bE,bD,bC,bB,bA];intro bc am y;obtain⟨bj,aQ,aG,aP,aN,aM⟩:=y _ (.head _) u rfl;have ap:=(y _ (.tail _ (.head _)) aD av c2 rfl).2;clear y;simp only[ae,aw];have am:=aJ am;have bf:=am.size;have ax:=World.ownsRow.lt K.out.xx.1;have K:=G (K.out.step ap am);have a3:=G (aM.mono (Q:=λb=>af.heap.size+1<=b/\some b≠Value.ownBlock (.slice none 0 0)) (λb z _=>⟨by omega,λe=>by have:=(ax b e.symm).2;omega⟩));clear am ap aM V R F A;refine fj JC rfl _ _ rfl (af.heap.size+1) _ 0 (il []) rfl K.out.xx.1 u (zL a (.slice aQ aG aP)) rfl aN rfl (yn _ _ _ _) J Qd J ?_;intro an cap' bb aI az aH;have K:=G (K.out.app (Y:=λaB=>iJ aB (af.heap.size+1) 206 (.slice (some ⟨an,0,none⟩) 1 cap') [(a,.slice aQ aG aP)]) az (λk e=>(ax k e).1) (K.out.xx.snoc a3.out aI az aH) λk ag aB bl aV d=>d.grown aV (λk e=>by injection e with e;omega));obtain⟨V,R,F,A⟩:=K.out.cells;clear aI az aH aN ax;go_wp2_with fail;have K:=G (K.out.set J 2 (.slice (some ⟨an,0,none⟩) 1 cap'));obtain⟨ar,au⟩:=K.out.fin (r:=ik f l) (.mk 2 (cX l).t [a] [] []) 2 (Z (cX l).t) (some ⟨an,0,none⟩) 1 cap' none 0 0 none 0 0 (by unfold ik;rw[cj ag,then_ok,if_neg (by simp[hlp]),if_neg (by simp[hls]),db heq,then_ok,hy,then_ok]) rfl rfl (λd=>⟨by have:=d.rd.mono (Q:=λb=>ao.heap.size<b) (λb z _=>by omega);simpa[St.ex]using this,.nil _ _,.nil _ _⟩);simp only[World.setCells,aE,Nat.reduceAdd]at ar au;exact bodyPost_ret (v:=.agg #[.int i64 2,.string (Z (cX l).t),.slice (some ⟨an,0,none⟩) 1 cap',.slice none 0 0,.slice none 0 0]) (by simp[results,results205,go_sem,ar]) rfl au
   |false=>
    go_wp2_with (go_at_call 99;refine(K.out.bad heq).mono ?_;unfold be;rintro e X ⟨rfl,ah⟩);exact⟨rfl,dQ (by unfold ik;rw[cj ag,then_ok,if_neg (by simp[hlp]),if_neg (by simp[hls]),fH heq,cv]) ah.out⟩
end
end Go.Proofs.YtoedmpgicdekmaaGreatDoor
