/- Parts of the proof. -/
import Derived.Test.YtddomeddabfinaaGreatDoorTt00
import Derived.LoopN
import Derived.Test.YtddomeddabfinaaGreatDoorTt05
set_option maxRecDepth 100000
set_option maxHeartbeats 8000000
set_option linter.unusedVariables false
set_option linter.unusedSimpArgs false
set_option linter.unusedSectionVars false
namespace Go.Proofs.YtddomeddabfinaaGreatDoor
open IntKind(i64)
open Go.Proofs.Tryz
section
open Go.RowKit
theorem DV (f:Nat) (ar:fL f) (base g o A:Nat) (nm:List UInt8) (l:List bT) (en:Int) (j:World) (C:Option Addr) (n aw:Nat)
  (M:PA j g l en) (ac:aU j A 153 #[.pointer (some ⟨g,0,none⟩)]) (V:aU j o 70 #[.int i64 5,.string ⟨#[]⟩,.string (J nm),.string ⟨#[]⟩,.int i64 0,.slice C n aw])
  (ao:base<=j.heap.size) (aF:g<o) (aE:g<A) (aj:4*l.length+2<=f)
  (q:List bT) (af:Int) (ak:bS f 1 l=.error (q,af)):
  Calls prog 223 #[.pointer (some ⟨o,0,none⟩),.pointer (some ⟨A,0,none⟩)] j λe w'=>e=bh en q af/\Fr base g o j w':=by
 have az:=O M;have ah:=O ac;have ag:=O V;have aD:g<j.heap.size:=M.lt;have R:o≠g:=Qa
 have ab:A≠g:=Qa
 clear M ac V;go_enter func223,ntmps223;refine lm 6 0 [(3,λv=>v=.agg #[.int i64 0,.string ⟨#[]⟩,.string ⟨#[]⟩,.string ⟨#[]⟩,.int i64 0,.slice none 0 0],λ_ _=>False),(5,λv=> ∃ae,v=.slice (some ⟨ae,0,none⟩) 1 1,λ_ _=>True)] 3 (some g) mixed Qb
  ⟨λ_ _ _ z _=>z,λ_ _ _ z _=>z,trivial⟩ ⟨.inl rfl,.inr λ_ _ _ z _=>z,trivial⟩ ?_
 repeat (refine sx ?_ (λai a=> ?_) ?_;rotate_left;(focus have av:=(ag.out.grown (aJ a) (λe=>R (I e))).cell;have au:=(ah.out.grown (aJ a) (λe=>ab (I e))).cell;clear a;go_simp<;>with_reducible rfl);simp only[a8,a7,a6,aZ,aY])
 refine bR _ _ Qe rfl ⟨_,rfl⟩ rfl (λG K w ax ad=> ?_) ?_
 ·clear w;have an:=ar 1 l en G g (az.out.ext K.un) Qc Qc aj;have ay:=O K.un;clear K;go_simp;refine an.mono ?_;intro e aB X;rw[ak]at X;obtain⟨aq,rfl⟩:=X;unfold bh;intro aG al;exact⟨al,rfl,dh (ap (ay.out.grownBy _) aq) ao (λk e=>by injection e with e;omega)⟩
 rintro _ rfl;simp only[a8,a7,a6,aZ,aY];repeat (refine sx ?_ (λai a=> ?_) ?_;rotate_left;(focus have av:=(ag.out.grown (aJ a) (λe=>R (I e))).cell;have au:=(ah.out.grown (aJ a) (λe=>ab (I e))).cell;clear a;go_simp<;>with_reducible rfl);simp only[a8,a7,a6,aZ,aY])
 refine bg _ _ Qe rfl ⟨_,0,rfl⟩ Qd (λG a w ax ad=> ?_) ?_
 ·clear w;go_simp;exact ad _ _ (Z G _) ⟨_,rfl⟩ trivial
 rintro _ ⟨ae,rfl⟩;simp only[a8,a7,a6,aZ,aY];intro aA aC w;exact(w _ (.tail _ (.head _))).elim
def tokN (g:Nat) (w:World):Nat:=match w.cell? ⟨g,0,none⟩with
 |some (.slice _ n _)=>n
 | _=>0
theorem PA.tokN {a:World} {g:Nat} {l:List bT} {en:Int} (j:PA a g l en):tokN g a=l.length:=by
 obtain⟨o,c,h,_⟩:=j;unfold YtddomeddabfinaaGreatDoor.tokN;rw[h.cell];rfl
def H' (base g px:Nat) (nm:List UInt8) (en:Int) (w:World) (r:PR (List Ex)) (e:Ending) (w':World):Prop:=
 Fr base g px w w'/\match r with
 | .ok (a,q)=>e=.returned (.tuple #[])/\PA w' g q en/\ ∃C n cap,aU w' px 70 #[.int i64 5,.string ⟨#[]⟩,.string (J nm),.string ⟨#[]⟩,.int i64 0,.slice C n cap]/\c7 w' (λb=>base<=b) (.slice C n cap) a
 | .error (q,n)=>e=bh en q n
theorem rj (f:Nat) (aM: ∀i,i<=f->fL i) (base g z V:Nat) (nm:List UInt8) (l:List bT) (en:Int) (K:World)
  (aq:PA K g l en) (aK:aU K V 153 #[.pointer (some ⟨g,0,none⟩)]) (aC:aU K z 70 #[.int i64 5,.string ⟨#[]⟩,.string (J nm),.string ⟨#[]⟩,.int i64 0,.slice none 0 0])
  (aJ:base<=K.heap.size) (aG:g<z) (aF:g<V) (aY:V≠z) (aX:z<base) (aD:V<base) (a1:4*l.length+4<=f+1) (a7:l.length<=100000):
  Calls prog 102 #[.pointer (some ⟨g,0,none⟩),.func (Fn.func 223) #[] #[.pointer (some ⟨z,0,none⟩),.pointer (some ⟨V,0,none⟩)]] K (H' base g z nm en K (fS (f+1) l)):=by
 have bb:=O aq;have a4:=O aK;have aP:=O aC;have R:=O (cQ g l en je K aq);clear aq aK aC
 cases hrp:bX je l with
 |true=>
  rw[hrp]at R;simp only[if_true]at R;have aw:=O (show fS (f+1) l=.ok ([],l.tail)from by rw[fS,if_pos hrp]);go_enter func102,ntmps102;go_wp2_with (go_at_call 98;refine R.out.mono ?_;rintro e aV ⟨rfl,j,a⟩;have az:=O j;have al:=O a;clear j a R)
  go_end0
  rw[aw.out];exact⟨dh al.out aJ (λk e=>by injection e with e;omega),rfl,az.out,_,_,_,aP.out.grown al.out (λe=>by injection e with e;omega),.nil _ _⟩
 |false=>
  rw[hrp]at R;simp only[aT,if_false]at R;have aw:=O (show fS (f+1) l=fV f [] l from by rw[fS,if_neg (by rw[hrp];simp)]);have aZ:4*l.length+3<=f:=Qa
  clear a1;go_enter func102,ntmps102;go_wp2_with (go_at_call 98;refine R.out.mono ?_;rintro e aV ⟨rfl,j,a⟩;have az:=O j;have al:=O a;clear j a R)
  go_loopw [] (λwr=> ∃(k:Nat) (o:List (Ex×Value)) (r:List bT) (C:Option Addr) (n ah:Nat),4*r.length+3<=k/\k<=f/\o.length=n/\n+r.length<=l.length/\Hid (fV k (o.map (·.1)) r=fS (f+1) l)/\Hid (PA wr g r en)/\Hid (aU wr z 70 #[.int i64 5,.string ⟨#[]⟩,.string (J nm),.string ⟨#[]⟩,.int i64 0,.slice C n ah])/\
   Hid (gz wr base 70 (.slice C n ah) o)/\Hid (Fr base g z K wr)) (λwr=>tokN g wr)
  case atStart=>exact⟨f,[],l,none,0,0,aZ,ak _,rfl,by omega,O aw.out.symm,az,O (aP.out.grown al.out (λe=>by injection e with e;omega)),O (oA _ _ _),O (dh al.out aJ (λk e=>by injection e with e;omega))⟩
  case round=>
   obtain⟨k,o,r,C,n,ah,ba,a9,aE,a6,ao,ax,aO,a3,af⟩:=hrel;obtain⟨k,rfl⟩: ∃aW,k=aW+1:=⟨k-1,by omega⟩
   have aR:=O (af.out.blk a4.out aD Qa Qa);have aI:base<=wr.heap.size:=by have:=af.out.size;omega
   have aH:4*r.length+2<=k:=Qa
   have an:=O (show fV (k+1) (o.map (·.1)) r=(bS k 1 r).then λx q=>if bX je q then .ok (o.map (·.1)++[x],q.tail)else(bw uY q).then λ_ q=>fV k (o.map (·.1)++[x]) q from by rw[fV])
   cases he:bS k 1 r with
   |error p=>
    obtain⟨q,aN⟩:=p;have ab:=O (show fS (f+1) l=.error (q,aN)from by rw[<-ao.out,an.out,he];rfl);have G:=O (DV k (aM k Qa) base g z V nm r en wr C n ah ax.out aR.out aO.out aI aG aF aH q aN he);unfold bh at G;go_wp2_with (go_at_call 223;refine G.out.mono ?_;rintro e ae ⟨rfl,w⟩;have A:=O (af.out.trans w);clear w G);exact⟨rfl,by rw[ab.out];exact⟨A.out,rfl⟩⟩
   |ok p=>
    obtain⟨x,q⟩:=p;have a8:=(jV k).1 _ _ _ _ he;have G:=O (Fu k (aM k Qa) base g z V nm r en wr o C n ah ax.out aR.out aO.out a3.out aE aI aG aF aY aX aD aH Qa x q he)
    cases hr2:bX je q with
    |true=>
     have ab:=O (show fS (f+1) l=.ok (o.map (·.1)++[x],q.tail)from by rw[<-ao.out,an.out,he];show(if bX je q then(Except.ok (o.map (·.1)++[x],q.tail):PR (List Ex))else _)=_;rw[if_pos hr2])
     go_wp2_with (first
      |(go_at_call 223;refine G.out.mono ?_;rintro e ae ⟨rfl,w,M,aA,ar,au,X,I⟩;have A:=O (af.out.trans w);have ac:=O M;have av:=O X;have ay:=O I;clear w G M X I)
      |(go_at_call 98;refine(cQ g q en je _ ac.out).mono ?_;rw[hr2];simp only[if_true];rintro e aB ⟨rfl,j,a⟩;have ai:=O j;have ad:=O a;clear j a))
     go_end0
     rw[ab.out];have ag:base<=ae.heap.size:=by have:=A.out.size;omega
     have a2:=ay.out.grown ad.out (λk e=>by injection e with e;omega);exact⟨A.out.trans (dh ad.out ag (λk e=>by injection e with e;omega)),rfl,ai.out,_,_,_,av.out.grown ad.out (λe=>by injection e with e;omega),by have:=a2.rd;simpa using this⟩
    |false=>
     cases hcm:bX uY q with
     |false=>
      have ab:=O (show fS (f+1) l=.error (q,3)from by rw[<-ao.out,an.out,he];show(if bX je q then(Except.ok (o.map (·.1)++[x],q.tail):PR (List Ex))else _)=_;rw[if_neg (by rw[hr2];simp)];unfold bw;rw[hcm];rfl)
      go_wp2_with (first
       |(go_at_call 223;refine G.out.mono ?_;rintro e ae ⟨rfl,w,M,aA,ar,au,X,I⟩;have A:=O (af.out.trans w);have ac:=O M;clear w G M X I)
       |(go_at_call 98;refine(cQ g q en je _ ac.out).mono ?_;rw[hr2];simp only[aT,if_false];rintro e aB ⟨rfl,j,a⟩;have ai:=O j;have ad:=O a;clear j a ac)
       |(go_at_call 100;refine(gX g q en uY _ ai.out hcm).mono ?_;unfold bh;rintro e aS ⟨rfl,aL⟩;have aj:=O (ap ad.out aL);clear aL))
      have ag:base<=ae.heap.size:=by have:=A.out.size;omega
      exact⟨rfl,by rw[ab.out];exact⟨A.out.trans (dh aj.out ag (λk e=>by injection e with e;omega)),rfl⟩⟩
     |true=>
      have ab:=O (show fV k (o.map (·.1)++[x]) q.tail=fS (f+1) l from by rw[<-ao.out,an.out,he];show _=(if bX je q then(Except.ok (o.map (·.1)++[x],q.tail):PR (List Ex))else _);rw[if_neg (by rw[hr2];simp)];unfold bw;rw[hcm];rfl);have a5:=bG hcm
      go_wp2_with (first
       |(go_at_call 223;refine G.out.mono ?_;rintro e ae ⟨rfl,w,M,aA,ar,au,X,I⟩;have A:=O (af.out.trans w);have ac:=O M;have av:=O X;have ay:=O I;clear w G M X I)
       |(go_at_call 98;refine(cQ g q en je _ ac.out).mono ?_;rw[hr2];simp only[aT,if_false];rintro e aB ⟨rfl,j,a⟩;have ai:=O j;have ad:=O a;clear j a ac)
       |(go_at_call 100;refine(eV g q en uY _ ai.out hcm).mono ?_;rintro e aS ⟨rfl,j,a⟩;have aQ:=O j;have aj:=O (ap ad.out a);clear j a))
      have ag:base<=ae.heap.size:=by have:=A.out.size;omega
      go_roundw
      case rel=>exact⟨k,o++[(x,au)],q.tail,aA,n+1,ar,by omega,by omega,by simp[aE],by omega,O (by simpa using ab.out),aQ,O (av.out.grown aj.out (λe=>by injection e with e;omega)),O (by simpa using ay.out.grown aj.out (λk e=>by injection e with e;omega)),O (A.out.trans (dh aj.out ag (λk e=>by injection e with e;omega)))⟩
      case measure=>rw[ax.out.tokN,aQ.out.tokN];omega
theorem sH {o W:World} {g a:Nat} {en:Int} {q:List bT} {O M K G A z:Value} {r:PR Ex} (x:Ex) (k:Int) (so j st:ByteArray) (v:Int) (h:Option Addr) (n c:Nat) (X:r=.ok (x,q)) (ad:x.k=k) (ab:J x.op=so) (ac:J x.nm=j) (V:J x.tx=st) (R:x.v=v) (I:o.heap.size<=a)
  (ai:aU W a 70 #[O,M,K,G,A,z]) (ah:o.grownBy W (some g)) (ag:PA W g q en) (aj:g<o.heap.size) (af:c7 W (λb=>a<b) (.slice h n c) x.args):
  (∀i,(W.setCells a 0 [.int i64 k,.string so,.string j,.string st,.int i64 v,.slice h n c]).cell? ⟨a,i,none⟩=(#[.int i64 k,.string so,.string j,.string st,.int i64 v,.slice h n c]:Array Value)[i]?)/\
  qG g en o r (.returned (.agg #[.int i64 k,.string so,.string j,.string st,.int i64 v,.slice h n c])) (W.setCells a 0 [.int i64 k,.string so,.string j,.string st,.int i64 v,.slice h n c]):=by
 subst X ad ab ac V R;have w:=dx a [.int i64 x.k,.string (J x.op),.string (J x.nm),.string (J x.tx),.int i64 x.v,.slice h n c] 0 W;refine⟨(aU.put6 ai _ _ _ _ _ _).cell,d8 ah w I,h,n,c,rfl,af.keep (.of_grown w λb ae e=>by injection e with e;omega) λb ae _=>by omega,ag.grown w λk e=>by injection e with e;omega⟩
theorem jp (a:World) (p:Value):let W0:=(a.alloc (.cells #[p] 153)).alloc (.cells #[.int i64 0,.string ⟨#[]⟩,.string ⟨#[]⟩,.string ⟨#[]⟩,.int i64 0,.slice none 0 0] 70)
  az a W0/\aU W0 a.heap.size 153 #[p]/\aU W0 (a.heap.size+1) 70 #[.int i64 0,.string ⟨#[]⟩,.string ⟨#[]⟩,.string ⟨#[]⟩,.int i64 0,.slice none 0 0]:=by
 have h:=aw (a.alloc (.cells #[p] 153)) 70 #[.int i64 0,.string ⟨#[]⟩,.string ⟨#[]⟩,.string ⟨#[]⟩,.int i64 0,.slice none 0 0];rw[World.size_alloc]at h;exact⟨(Z a _).alloc' _,(aw a _ _).alloc _,h⟩
theorem vL (f:Nat) (nm:List UInt8) (l:List bT) (en:Int) (j:World) (g:Nat) (G:PA j g l en) (X:bX mV l=false) (ab:bX kV l=false):Calls prog 206 #[.pointer (some ⟨g,0,none⟩),.string (J nm)] j (qG g en j (cG (f+1) nm l)):=by
 have aq:=O (show cG (f+1) nm l=.ok (.mk 3 [] nm [] 0 [],l)from by rw[cG,if_neg (by rw[X];simp),if_neg (by rw[ab];simp)]);obtain⟨A,z,ae⟩:=jp j (.pointer (some ⟨g,0,none⟩));have ao:=O A;have an:=O z;have aw:=O ae;have ah:=O (G.ext A);have w:=z.cell;have ak:=G.lt;have ad:j.heap.size≠g:=Qa
 have V:j.heap.size+1≠g:=Qa
 have az:g≠j.heap.size+1:=Qa
 clear G A z ae;go_enter func206,ntmps206;go_wp2_with (first|(go_at_call 98;refine(cQ g _ en mV _ ah.out).mono ?_;rw[X];simp only[aT,if_false];rintro e ay ⟨rfl,o,a⟩;have ag:=O o;have av:=O (ap (ao.out.grownBy _) a);have af:=O (an.out.grown a (λe=>ad (I e)));have M:=O (aw.out.grown a (λe=>V (I e)));clear w;have w:=af.out.cell;have aj:=M.out.cell;have ai:=M.out.frozen;clear o a ah)|(go_at_call 98;refine(cQ g _ en kV _ ag.out).mono ?_;rw[ab];simp only[aT,if_false];rintro e ax ⟨rfl,o,a⟩;have ar:=O o;have au:=O (ap av.out a);have al:=O (af.out.grown a (λe=>ad (I e)));have K:=O (M.out.grown a (λe=>V (I e)));clear w;have w:=al.out.cell;have aj:=K.out.cell;have ai:=K.out.frozen;clear o a ag));obtain⟨R,ac⟩:=sH (.mk 3 [] nm [] 0 []) 3 ⟨#[]⟩ (J nm) ⟨#[]⟩ 0 none 0 0 aq.out rfl rfl rfl rfl rfl (lJ _) K.out au.out ar.out ak (.nil _ _);simp only[World.setCells,aG,Nat.reduceAdd]at R ac;exact bodyPost_ret (v:=.agg #[.int i64 3,.string ⟨#[]⟩,.string (J nm),.string ⟨#[]⟩,.int i64 0,.slice none 0 0]) (by simp[results,results206,go_sem,R]) rfl ac
theorem yE (f:Nat) (nm:List UInt8) (l:List bT) (en:Int) (a:World) (g:Nat) (A:PA a g l en) (ag:fL f) (aA:4*l.length+1<=f+1) (o:bX mV l=true) (q:List bT) (n:Int) (G:bS f 1 l.tail=.error (q,n)):Calls prog 206 #[.pointer (some ⟨g,0,none⟩),.string (J nm)] a (qG g en a (cG (f+1) nm l)):=by
 have ak:=O (show cG (f+1) nm l=(bS f 1 l.tail).then λx r=>(bw qz r).then λ_ r=> .ok (.mk 4 [] nm [] 0 [x],r)from by rw[cG,if_pos o]);have ae:4*l.tail.length+2<=f:=by have:=bG o;omega
 have al:=O (show cG (f+1) nm l=.error (q,n)from by rw[ak.out,G];rfl);obtain⟨z,w,V⟩:=jp a (.pointer (some ⟨g,0,none⟩));have aj:=O z;have ai:=O w;have ar:=O V;have ab:=O (A.ext z);have M:=w.cell;have az:=A.lt;have af:a.heap.size≠g:=Qa
 have ad:a.heap.size+1≠g:=Qa
 have ay:g≠a.heap.size+1:=Qa
 clear A z w V;go_enter func206,ntmps206;go_wp2_with (first|(go_at_call 98;refine(cQ g _ en mV _ ab.out).mono ?_;rw[o];simp only[if_true];rintro e av ⟨rfl,X,j⟩;have an:=O X;have aq:=O (ap (aj.out.grownBy _) j);have ah:=O (ai.out.grown j (λe=>af (I e)));have ac:=O (ar.out.grown j (λe=>ad (I e)));clear M;have M:=ah.out.cell;have ax:=ac.out.cell;have aw:=ac.out.frozen;clear X j ab)|(go_at_call 183;refine(ag 1 _ en _ g an.out Qc Qc ae).mono ?_;intro e au K;rw[G]at K;obtain⟨R,rfl⟩:=K;unfold bh;have ao:=O (ap aq.out R);clear R));exact⟨rfl,h_ al.out ao.out⟩
theorem yF (f:Nat) (nm:List UInt8) (l:List bT) (en:Int) (a:World) (g:Nat) (ab:PA a g l en) (av:fL f) (aP:4*l.length+1<=f+1) (M:bX mV l=true) (x:Ex) (q:List bT) (ac:bS f 1 l.tail=.ok (x,q)) (ad:bX qz q=false):Calls prog 206 #[.pointer (some ⟨g,0,none⟩),.string (J nm)] a (qG g en a (cG (f+1) nm l)):=by
 have aB:=O (show cG (f+1) nm l=(bS f 1 l.tail).then λx r=>(bw qz r).then λ_ r=> .ok (.mk 4 [] nm [] 0 [x],r)from by rw[cG,if_pos M]);have au:4*l.tail.length+2<=f:=by have:=bG M;omega
 have aC:=O (show cG (f+1) nm l=.error (q,3)from by rw[aB.out,ac];show(bw qz q).then (λ_ r=>(Except.ok (.mk 4 [] nm [] 0 [x],r):PR Ex))=_;unfold bw;rw[ad];rfl);obtain⟨V,R,aj⟩:=jp a (.pointer (some ⟨g,0,none⟩));have az:=O V;have ay:=O R;have aH:=O aj;have ao:=O (ab.ext V);have z:=R.cell;have aO:=ab.lt;have ag:a.heap.size≠g:=Qa
 have ae:a.heap.size+1≠g:=Qa
 have aN:g≠a.heap.size+1:=Qa
 clear ab V R aj;go_enter func206,ntmps206;go_wp2_with (first|(go_at_call 98;refine(cQ g _ en mV _ ao.out).mono ?_;rw[M];simp only[if_true];rintro e aq ⟨rfl,ak,A⟩;have an:=O ak;have aG:=O (ap (az.out.grownBy _) A);have al:=O (ay.out.grown A (λe=>ag (I e)));have G:=O (aH.out.grown A (λe=>ae (I e)));clear z;have z:=al.out.cell;have aM:=G.out.cell;have aL:=G.out.frozen;clear ak A ao)|(go_at_call 183;refine(av 1 _ en _ g an.out Qc Qc au).mono ?_;intro e o af;rw[ac]at af;obtain⟨j,K,n,c,rfl,ah,X⟩:=af;have aK:a.heap.size+2<=aq.heap.size:=G.out.lt;have aJ:=j.size;have w:=(Z o (.cells #[.int i64 x.k,.string (J x.op),.string (J x.nm),.string (J x.tx),.int i64 x.v,.slice K n c] 70)).alloc' (.cells #[.int i64 4,.string ⟨#[]⟩,.string (J nm),.string ⟨#[]⟩,.int i64 0,.slice (some ⟨o.heap.size,0,none⟩) 1 1] 70);have aF:=O (ap (ap aG.out j) (w.grownBy (some g)));have ax:=O ((al.out.grown j (λe=>ag (I e))).ext w);have aS:=O ((G.out.grown j (λe=>ae (I e))).ext w);have aA:=O (aw (o.alloc (.cells #[.int i64 x.k,.string (J x.op),.string (J x.nm),.string (J x.tx),.int i64 x.v,.slice K n c] 70)) 70 #[.int i64 4,.string ⟨#[]⟩,.string (J nm),.string ⟨#[]⟩,.int i64 0,.slice (some ⟨o.heap.size,0,none⟩) 1 1]);have ai:=(aw o 70 #[.int i64 x.k,.string (J x.op),.string (J x.nm),.string (J x.tx),.int i64 x.v,.slice K n c]).alloc (.cells #[.int i64 4,.string ⟨#[]⟩,.string (J nm),.string ⟨#[]⟩,.int i64 0,.slice (some ⟨o.heap.size,0,none⟩) 1 1] 70);have aR:=O (sU (P:=λb=>a.heap.size+1<b) ai Qa (ah.keep (.of_ext w) (λb aQ _=>by omega)));have aD:=O (X.ext w);have ar:(o.alloc (.cells #[.int i64 x.k,.string (J x.op),.string (J x.nm),.string (J x.tx),.int i64 x.v,.slice K n c] 70)).heap.size≠g:=(by have:=X.lt;rw[World.size_alloc];omega);rw[World.size_alloc]at aA ar;clear z;have z:=ax.out.cell;clear j ah X w ai an)|(go_at_call 100;refine(gX g _ en qz _ aD.out ad).mono ?_;unfold bh;rintro e aI ⟨rfl,j⟩;have aE:=O (ap aF.out j);clear j));exact⟨rfl,h_ aC.out aE.out⟩
theorem Ba (f:Nat) (nm:List UInt8) (l:List bT) (en:Int) (o:World) (g:Nat) (ae:PA o g l en) (aF:fL f) (a1:4*l.length+1<=f+1) (V:bX mV l=true) (x:Ex) (q:List bT) (ag:bS f 1 l.tail=.ok (x,q)) (aj:bX qz q=true):Calls prog 206 #[.pointer (some ⟨g,0,none⟩),.string (J nm)] o (qG g en o (cG (f+1) nm l)):=by
 have aN:=O (show cG (f+1) nm l=(bS f 1 l.tail).then λx r=>(bw qz r).then λ_ r=> .ok (.mk 4 [] nm [] 0 [x],r)from by rw[cG,if_pos V]);have aE:4*l.tail.length+2<=f:=by have:=bG V;omega
 have aO:=O (show cG (f+1) nm l=.ok (.mk 4 [] nm [] 0 [x],q.tail)from by rw[aN.out,ag];show(bw qz q).then (λ_ r=>(Except.ok (.mk 4 [] nm [] 0 [x],r):PR Ex))=_;unfold bw;rw[aj];rfl);obtain⟨ac,X,av⟩:=jp o (.pointer (some ⟨g,0,none⟩));have aJ:=O ac;have aI:=O X;have aU:=O av;have aB:=O (ae.ext ac);have G:=X.cell;have aD:=ae.lt;have aq:o.heap.size≠g:=Qa
 have R:o.heap.size+1≠g:=Qa
 have aZ:g≠o.heap.size+1:=Qa
 clear ae ac X av;go_enter func206,ntmps206;go_wp2_with (first|(go_at_call 98;refine(cQ g _ en mV _ aB.out).mono ?_;rw[V];simp only[if_true];rintro e aC ⟨rfl,A,a⟩;have aA:=O A;have aS:=O (ap (aJ.out.grownBy _) a);have ax:=O (aI.out.grown a (λe=>aq (I e)));have K:=O (aU.out.grown a (λe=>R (I e)));clear G;have G:=ax.out.cell;have al:=K.out.cell;have ak:=K.out.frozen;clear A a aB)|(go_at_call 183;refine(aF 1 _ en _ g aA.out Qc Qc aE).mono ?_;intro e j an;rw[ag]at an;obtain⟨z,M,n,c,rfl,ar,ad⟩:=an;have aX:o.heap.size+2<=aC.heap.size:=K.out.lt;have aW:=z.size;have w:=(Z j (.cells #[.int i64 x.k,.string (J x.op),.string (J x.nm),.string (J x.tx),.int i64 x.v,.slice M n c] 70)).alloc' (.cells #[.int i64 4,.string ⟨#[]⟩,.string (J nm),.string ⟨#[]⟩,.int i64 0,.slice (some ⟨j.heap.size,0,none⟩) 1 1] 70);have aR:=O (ap (ap aS.out z) (w.grownBy (some g)));have aH:=O ((ax.out.grown z (λe=>aq (I e))).ext w);have aT:=O ((K.out.grown z (λe=>R (I e))).ext w);have ay:=O (aw (j.alloc (.cells #[.int i64 x.k,.string (J x.op),.string (J x.nm),.string (J x.tx),.int i64 x.v,.slice M n c] 70)) 70 #[.int i64 4,.string ⟨#[]⟩,.string (J nm),.string ⟨#[]⟩,.int i64 0,.slice (some ⟨j.heap.size,0,none⟩) 1 1]);have au:=(aw j 70 #[.int i64 x.k,.string (J x.op),.string (J x.nm),.string (J x.tx),.int i64 x.v,.slice M n c]).alloc (.cells #[.int i64 4,.string ⟨#[]⟩,.string (J nm),.string ⟨#[]⟩,.int i64 0,.slice (some ⟨j.heap.size,0,none⟩) 1 1] 70);have aM:=O (sU (P:=λb=>o.heap.size+1<b) au Qa (ar.keep (.of_ext w) (λb ab _=>by omega)));have az:=O (ad.ext w);have ah:(j.alloc (.cells #[.int i64 x.k,.string (J x.op),.string (J x.nm),.string (J x.tx),.int i64 x.v,.slice M n c] 70)).heap.size≠g:=(by have:=ad.lt;rw[World.size_alloc];omega);rw[World.size_alloc]at ay ah;clear G;have G:=aH.out.cell;clear z ar ad w au aA)|(go_at_call 100;refine(eV g _ en qz _ az.out aj).mono ?_;rintro e aV ⟨rfl,A,a⟩;have aP:=O A;have aQ:=O (ap aR.out a);have af:=O (aT.out.grown a (λe=>R (I e)));have aK:=O (ay.out.grown a (λe=>ah (I e)));have aL:=O (aM.out.keep (.of_grown a λb ab e=>by injection e with e;omega) (λb ab _=>ab));clear al ak;have al:=af.out.cell;have ak:=af.out.frozen;have aY:=aK.out.cell;clear A a az));obtain⟨ai,ao⟩:=sH (.mk 4 [] nm [] 0 [x]) 4 ⟨#[]⟩ (J nm) ⟨#[]⟩ 0 (some ⟨j.heap.size,0,none⟩) 1 1 aO.out rfl rfl rfl rfl rfl (lJ _) af.out aQ.out aP.out aD aL.out;simp only[World.setCells,aG,Nat.reduceAdd]at ai ao;exact bodyPost_ret (v:=.agg #[.int i64 4,.string ⟨#[]⟩,.string (J nm),.string ⟨#[]⟩,.int i64 0,.slice (some ⟨j.heap.size,0,none⟩) 1 1]) (by simp[results,results206,go_sem,ai]) rfl ao
theorem BM (f:Nat) (nm:List UInt8) (l:List bT) (en:Int) (a:World) (g:Nat) (V:PA a g l en) (av: ∀i,i<=f->fL i) (aR:f<=400000) (aS:4*l.length+1<=f+1) (ad:bX mV l=false) (G:bX kV l=true) (q:List bT) (n:Int) (ab:fS f l.tail=.error (q,n)):Calls prog 206 #[.pointer (some ⟨g,0,none⟩),.string (J nm)] a (qG g en a (cG (f+1) nm l)):=by
 obtain⟨f,rfl⟩: ∃ax,f=ax+1:=⟨f-1,by have:=bG G;omega⟩
 have aC:=O (show cG (f+1+1) nm l=(fS (f+1) l.tail).then λay r=> .ok (.mk 5 [] nm [] 0 ay,r)from by rw[cG,if_neg (by rw[ad];simp),if_pos G]);have au:4*l.tail.length+4<=f+1:=by have:=bG G;omega
 have aN: ∀(fn:Fn) (first ai:Array Value) (a:World),(Instr.makeFunc fn first ai).run prog a=.ok (.func fn first ai) a:=λ_ _ _ _=>rfl;have aD:=O (show cG (f+1+1) nm l=.error (q,n)from by rw[aC.out,ab];rfl);obtain⟨R,M,ah⟩:=jp a (.pointer (some ⟨g,0,none⟩));have aB:=O R;have aA:=O M;have aJ:=O ah;have ao:=O (V.ext R);have w:=M.cell;have aQ:=V.lt;have af:a.heap.size≠g:=Qa
 have ac:a.heap.size+1≠g:=Qa
 have aP:g≠a.heap.size+1:=Qa
 clear V R M ah;go_enter func206,ntmps206;go_wp2_with (first|(go_at_call 98;refine(cQ g _ en mV _ ao.out).mono ?_;rw[ad];simp only[aT,if_false];rintro e aL ⟨rfl,z,j⟩;have an:=O z;have aI:=O (ap (aB.out.grownBy _) j);have aj:=O (aA.out.grown j (λe=>af (I e)));have X:=O (aJ.out.grown j (λe=>ac (I e)));clear w;have w:=aj.out.cell;have ar:=X.out.cell;have aq:=X.out.frozen;clear z j ao)|(go_at_call 98;refine(cQ g _ en kV _ an.out).mono ?_;rw[G];simp only[if_true];rintro e o ⟨rfl,z,j⟩;have al:=O z;have aH:=O (ap aI.out j);have A:=O (aj.out.grown j (λe=>af (I e)));have K:=O (X.out.grown j (λe=>ac (I e)));clear w;have w:=A.out.cell;have ar:=K.out.cell;have aq:=K.out.frozen;clear z j an;have aE:=O (rj f (λi aO=>av i Qa) (o.heap.size+1) g o.heap.size a.heap.size nm l.tail en (o.alloc (.cells #[.int i64 5,.string ⟨#[]⟩,.string (J nm),.string ⟨#[]⟩,.int i64 0,.slice none 0 0] 70)) (al.out.ext (Z o _)) (A.out.alloc _) (aw o _ _) (by rw[World.size_alloc];exact ak _) (by have:=al.out.lt;omega) Qa (by have:=A.out.lt;omega) Qa (by have:=A.out.lt;omega) au Qa);have aU:=O (K.out.alloc (.cells #[.int i64 5,.string ⟨#[]⟩,.string (J nm),.string ⟨#[]⟩,.int i64 0,.slice none 0 0] 70));have az:=O (A.out.alloc (.cells #[.int i64 5,.string ⟨#[]⟩,.string (J nm),.string ⟨#[]⟩,.int i64 0,.slice none 0 0] 70));have aM:a.heap.size+2<=o.heap.size:=K.out.lt;have aG:=O (ap aH.out ((Z o (.cells #[.int i64 5,.string ⟨#[]⟩,.string (J nm),.string ⟨#[]⟩,.int i64 0,.slice none 0 0] 70)).grownBy (some g)));clear w;have w:=az.out.cell)|(go_at_call 102;refine aE.out.mono ?_;intro e aK ae;rw[ab]at ae;obtain⟨ag,rfl⟩:=ae;unfold bh;have aF:=O (kD aG.out ag Qa Qa);clear ag));exact⟨rfl,h_ aD.out aF.out⟩
theorem DX (f:Nat) (nm:List UInt8) (l:List bT) (en:Int) (a:World) (g:Nat) (af:PA a g l en) (aE: ∀i,i<=f->fL i) (a5:f<=400000) (a6:4*l.length+1<=f+1) (al:bX mV l=false) (M:bX kV l=true) (G:List Ex) (q:List bT) (ai:fS f l.tail=.ok (G,q)):Calls prog 206 #[.pointer (some ⟨g,0,none⟩),.string (J nm)] a (qG g en a (cG (f+1) nm l)):=by
 obtain⟨f,rfl⟩: ∃aF,f=aF+1:=⟨f-1,by have:=bG M;omega⟩
 have aM:=O (show cG (f+1+1) nm l=(fS (f+1) l.tail).then λG r=> .ok (.mk 5 [] nm [] 0 G,r)from by rw[cG,if_neg (by rw[al];simp),if_pos M]);have aD:4*l.tail.length+4<=f+1:=by have:=bG M;omega
 have a2: ∀(fn:Fn) (first A:Array Value) (a:World),(Instr.makeFunc fn first A).run prog a=.ok (.func fn first A) a:=λ_ _ _ _=>rfl;have aN:=O (show cG (f+1+1) nm l=.ok (.mk 5 [] nm [] 0 G,q)from by rw[aM.out,ai];rfl);obtain⟨ad,ac,ax⟩:=jp a (.pointer (some ⟨g,0,none⟩));have aJ:=O ad;have aI:=O ac;have aW:=O ax;have aB:=O (af.ext ad);have w:=ac.cell;have aC:=af.lt;have aq:a.heap.size≠g:=Qa
 have V:a.heap.size+1≠g:=Qa
 have a4:g≠a.heap.size+1:=Qa
 clear af ad ac ax;go_enter func206,ntmps206;go_wp2_with (first|(go_at_call 98;refine(cQ g _ en mV _ aB.out).mono ?_;rw[al];simp only[aT,if_false];rintro e aY ⟨rfl,z,j⟩;have aA:=O z;have aU:=O (ap (aJ.out.grownBy _) j);have ay:=O (aI.out.grown j (λe=>aq (I e)));have ah:=O (aW.out.grown j (λe=>V (I e)));clear w;have w:=ay.out.cell;have ab:=ah.out.cell;have X:=ah.out.frozen;clear z j aB)|(go_at_call 98;refine(cQ g _ en kV _ aA.out).mono ?_;rw[M];simp only[if_true];rintro e o ⟨rfl,z,j⟩;have az:=O z;have aS:=O (ap aU.out j);have K:=O (ay.out.grown j (λe=>aq (I e)));have R:=O (ah.out.grown j (λe=>V (I e)));clear w;have w:=K.out.cell;have ab:=R.out.cell;have X:=R.out.frozen;clear z j aA;have aP:=O (rj f (λi a3=>aE i Qa) (o.heap.size+1) g o.heap.size a.heap.size nm l.tail en (o.alloc (.cells #[.int i64 5,.string ⟨#[]⟩,.string (J nm),.string ⟨#[]⟩,.int i64 0,.slice none 0 0] 70)) (az.out.ext (Z o _)) (K.out.alloc _) (aw o _ _) (by rw[World.size_alloc];exact ak _) (by have:=az.out.lt;omega) Qa (by have:=K.out.lt;omega) Qa (by have:=K.out.lt;omega) aD Qa);have aV:=O (R.out.alloc (.cells #[.int i64 5,.string ⟨#[]⟩,.string (J nm),.string ⟨#[]⟩,.int i64 0,.slice none 0 0] 70));have aH:=O (K.out.alloc (.cells #[.int i64 5,.string ⟨#[]⟩,.string (J nm),.string ⟨#[]⟩,.int i64 0,.slice none 0 0] 70));have aZ:a.heap.size+2<=o.heap.size:=R.out.lt;have aR:=O (ap aS.out ((Z o (.cells #[.int i64 5,.string ⟨#[]⟩,.string (J nm),.string ⟨#[]⟩,.int i64 0,.slice none 0 0] 70)).grownBy (some g)));clear w;have w:=aH.out.cell)|(go_at_call 102;refine aP.out.mono ?_;intro e aX an;rw[ai]at an;obtain⟨ae,rfl,av,C,n,A,ar,au⟩:=an;have aQ:=O (kD aR.out ae Qa Qa);have aO:=O av;have aL:=O (au.mono (Q:=λb=>a.heap.size+1<b) (λb a7 _=>by omega));have aK:=O ar;have ag:=O (ae.blk aV.out Qa V Qa);clear ab X;have ab:=ag.out.cell;have X:=ag.out.frozen;have a1:=aK.out.cell;clear ae av ar au));obtain⟨aj,ao⟩:=sH (.mk 5 [] nm [] 0 G) 5 ⟨#[]⟩ (J nm) ⟨#[]⟩ 0 C n A aN.out rfl rfl rfl rfl rfl (lJ _) ag.out aQ.out aO.out aC aL.out;simp only[World.setCells,aG,Nat.reduceAdd]at aj ao;exact bodyPost_ret (v:=.agg #[.int i64 5,.string ⟨#[]⟩,.string (J nm),.string ⟨#[]⟩,.int i64 0,.slice C n A]) (by simp[results,results206,go_sem,aj]) rfl ao
theorem vK (f:Nat) (w:f<=400000) (o: ∀i,i<=f->fL i):jG (f+1):=by
 intro nm l en a g h j
 cases hls:bX mV l with
 |true=>
  cases hx:bS f 1 l.tail with
  |error p=>exact yE f nm l en a g h (o f (ak _)) j hls p.1 p.2 hx
  |ok p=>
   cases hrs:bX qz p.2 with
   |false=>exact yF f nm l en a g h (o f (ak _)) j hls p.1 p.2 hx hrs
   |true=>exact Ba f nm l en a g h (o f (ak _)) j hls p.1 p.2 hx hrs
 |false=>
  cases hlp:bX kV l with
  |false=>exact vL f nm l en a g h hls hlp
  |true=>
   cases hx:fS f l.tail with
   |error p=>exact BM f nm l en a g h o w j hls hlp p.1 p.2 hx
   |ok p=>exact DX f nm l en a g h o w j hls hlp p.1 p.2 hx
theorem yJ (f:Nat) (bO:rL f) (bP: ∀i,i<=f->fL i):fL (f+1):=by
 intro o l en M g A cI cH ch;have a1:=O (Z M (.cells #[.int i64 0,.string ⟨#[]⟩,.string ⟨#[]⟩,.string ⟨#[]⟩,.int i64 0,.slice none 0 0] 70));have b7:=O (aw M 70 #[.int i64 0,.string ⟨#[]⟩,.string ⟨#[]⟩,.string ⟨#[]⟩,.int i64 0,.slice none 0 0]);have bz:=O (A.ext a1.out);have bK:=A.lt;have bb:M.heap.size≠g:=Qa
 have cL:g≠M.heap.size:=Qa
 have bM:4*l.length+1<=f:=Qa
 have bw:=O (show bS (f+1) o l=(cF f l).then λx r=>gB f o x r from by rw[bS]);clear A ch;go_enter func183,ntmps183
 cases hp0:cF f l with
 |error p=>
  obtain⟨q,bo⟩:=p;have aB:=O (show bS (f+1) o l=.error (q,bo)from by rw[bw.out,hp0];rfl);go_wp2_with (go_at_call 205;refine(bO l en _ g bz.out bM).mono ?_;intro e w ab;rw[hp0]at ab;obtain⟨ac,rfl⟩:=ab;unfold bh;have a5:=O (ap (a1.out.grownBy _) ac);clear ac);exact⟨rfl,h_ aB.out a5.out⟩
 |ok p=>
  obtain⟨V,bE⟩:=p;have cE:=(jV f).2.2.1 _ _ _ hp0;have b1:=O (show gB f o V bE=bS (f+1) o l from by rw[bw.out,hp0];rfl);clear bw;go_wp2_with (go_at_call 205;refine(bO l en _ g bz.out bM).mono ?_;intro e w ab;rw[hp0]at ab;obtain⟨ac,bC,a9,bp,rfl,aW,aK⟩:=ab;have cc:=ac.size;rw[World.size_alloc]at cc;have z:=Z w (.cells #[.int i64 V.k,.string (J V.op),.string (J V.nm),.string (J V.tx),.int i64 V.v,.slice bC a9 bp] 70);have a5:=O (ap (ap (a1.out.grownBy (some g)) ac) (z.grownBy (some g)));have b6:=O ((b7.out.grown ac (λe=>bb (I e))).ext z);have bX:=O (aw w 70 #[.int i64 V.k,.string (J V.op),.string (J V.nm),.string (J V.tx),.int i64 V.v,.slice bC a9 bp]);have b0:=O (aW.keep (.of_ext z) (Q:=λb=>M.heap.size<b/\b≠w.heap.size) (λb a bI=>⟨by rw[World.size_alloc]at a;omega,by omega⟩));have b3:=O (aK.ext z);have aE:w.heap.size≠g:=(by have:=aK.lt;omega);clear ac aW aK z);have cf:M.heap.size<w.heap.size:=Qa
  have ce:M.heap.size≠w.heap.size:=Qa
  have cG:w.heap.size≠M.heap.size:=Qa
  have cK:g≠w.heap.size:=λe=>aE e.symm;clear a1 b7 bz
  go_loopw [] (λwr=> ∃(k:Nat) (x:Ex) (G:Option Addr) (n c:Nat) (r:List bT),4*r.length+1<=k/\k<=f/\Hid (gB k o x r=bS (f+1) o l)/\Hid (PA wr g r en)/\Hid (aU wr w.heap.size 70 #[.int i64 x.k,.string (J x.op),.string (J x.nm),.string (J x.tx),.int i64 x.v,.slice G n c])/\Hid (c7 wr (λb=>M.heap.size<b/\b≠w.heap.size) (.slice G n c) x.args)/\Hid (aU wr M.heap.size 70 #[.int i64 0,.string ⟨#[]⟩,.string ⟨#[]⟩,.string ⟨#[]⟩,.int i64 0,.slice none 0 0])/\Hid (M.grownBy wr (some g))) (λwr=>tokN g wr)
  case atStart=>exact⟨f,V,bC,a9,bp,bE,by omega,ak _,b1,b3,bX,b0,b6,a5⟩
  case round=>
   clear b1 b3 bX b0 b6 a5;obtain⟨k,x,G,n,c,r,cg,cJ,a4,aC,br,bv,bB,bA⟩:=hrel;obtain⟨k,rfl⟩: ∃cb,k=cb+1:=⟨k-1,by omega⟩
   have ai:=O (eZ g r en wr aC.out);have a3:=O (show gB (k+1) o x r=if(cO r).k=5/\o<=im (cO r).t then(bS k (im (cO r).t+1) r.tail).then λy q=>gB k o (.mk 7 (cO r).t [] [] 0 [x,y]) q else .ok (x,r)from by rw[gB]);by_cases hgo:(cO r).k=5/\o<=im (cO r).t
   rotate_left
   ·have aB:=O (show bS (f+1) o l=.ok (x,r)from by rw[<-a4.out,a3.out,if_neg hgo]);clear a3 a4;generalize cO r=t at*;obtain⟨af,tt,aj,al⟩:=t;simp only at hgo ai;have aq:=O (my tt);generalize im tt=L at*;by_cases ao:af=5
    ·have bI:L<o:=Qa
     obtain rfl:af=5:=ao;clear hgo;go_wp2_with (first|(go_at_call 146;refine ai.out.mono ?_;rintro e ar ⟨rfl,z⟩;have bG:=dz z;have j:=z.alloc' (.cells #[.int i64 5,.string (J tt),.int i64 aj,.int i64 al] 206);have aO:=O (ap bA.out (j.grownBy (some g)));have ad:=O (bB.out.ext j);have aA:=O (br.out.ext j);have bu:=O (aw ar 206 #[.int i64 5,.string (J tt),.int i64 aj,.int i64 al]);have aL:=O (bv.out.keep (.of_ext j) (λ_ a _=>a));have aN:=O (aC.out.ext j);have aS:=aA.out.cell;have bd:=ad.out.cell;have bc:=ad.out.frozen;clear z j ai)|(go_at_call 153;refine(aq.out _).mono ?_;rintro e bD ⟨rfl,rfl⟩;clear aq));obtain⟨aF,aH⟩:=l7 x x.k (J x.op) (J x.nm) (J x.tx) x.v G n c aB.out rfl rfl rfl rfl rfl rfl ad.out aO.out aN.out bK (aL.out.mono λb a _=>by omega);simp only[World.setCells,aG,Nat.reduceAdd]at aF aH;change bodyPost prog Tryz.f183 _ Exit.ret _ _;exact bodyPost_ret (v:=.agg #[.int i64 x.k,.string (J x.op),.string (J x.nm),.string (J x.tx),.int i64 x.v,.slice G n c]) (by simp[results,results183,go_sem,aF]) rfl aH
    ·have cl:(af==5)=false:=Ql.2 ao;have cN:(af !=5)=true:=by rw[bne,cl];rfl
     clear hgo;go_wp2_with (first|(go_at_call 146;refine ai.out.mono ?_;rintro e ar ⟨rfl,z⟩;have bG:=dz z;have j:=z.alloc' (.cells #[.int i64 af,.string (J tt),.int i64 aj,.int i64 al] 206);have aO:=O (ap bA.out (j.grownBy (some g)));have ad:=O (bB.out.ext j);have aA:=O (br.out.ext j);have bu:=O (aw ar 206 #[.int i64 af,.string (J tt),.int i64 aj,.int i64 al]);have aL:=O (bv.out.keep (.of_ext j) (λ_ a _=>a));have aN:=O (aC.out.ext j);have aS:=aA.out.cell;have bd:=ad.out.cell;have bc:=ad.out.frozen;clear z j ai)|(go_at_call 153;refine(aq.out _).mono ?_;rintro e bD ⟨rfl,rfl⟩;clear aq));obtain⟨aF,aH⟩:=l7 x x.k (J x.op) (J x.nm) (J x.tx) x.v G n c aB.out rfl rfl rfl rfl rfl rfl ad.out aO.out aN.out bK (aL.out.mono λb a _=>by omega);simp only[World.setCells,aG,Nat.reduceAdd]at aF aH;change bodyPost prog Tryz.f183 _ Exit.ret _ _;exact bodyPost_ret (v:=.agg #[.int i64 x.k,.string (J x.op),.string (J x.nm),.string (J x.tx),.int i64 x.v,.slice G n c]) (by simp[results,results183,go_sem,aF]) rfl aH
   ·obtain⟨ao,bJ⟩:=hgo;obtain⟨⟨af,tt,aj,al⟩,q,rfl⟩:=nz ao Qc;have bZ:=O (show bS (f+1) o l=(bS k (im tt+1) q).then λy r=>gB k o (.mk 7 tt [] [] 0 [x,y]) r from by rw[<-a4.out,a3.out,if_pos ⟨ao,bJ⟩];rfl);clear a3 a4;simp only[cO]at ao bJ ai;obtain rfl:af=5:=ao;have aq:=O (my tt);have cP:=AU tt;have bL:4*q.length+2<=k:=by simp only[ah]at cg;omega
    generalize cm:im tt=L at*;have bI: ¬L<o:=Qa
    have cA:wrap64 (L+1)=L+1:=by simp only[wrap64];omega
    have cz:IntKind.i64.wrap (L+1)=L+1:=Qf
    clear cm;go_wp2_with (first|(go_at_call 146;refine ai.out.mono ?_;rintro e ar ⟨rfl,z⟩;have bG:=dz z;have j:=z.alloc' (.cells #[.int i64 5,.string (J tt),.int i64 aj,.int i64 al] 206);have aO:=O (ap bA.out (j.grownBy (some g)));have ad:=O (bB.out.ext j);have aA:=O (br.out.ext j);have bu:=O (aw ar 206 #[.int i64 5,.string (J tt),.int i64 aj,.int i64 al]);have aL:=O (bv.out.keep (.of_ext j) (λ_ a _=>a));have aN:=O (aC.out.ext j);have aS:=aA.out.cell;have bd:=ad.out.cell;have bc:=ad.out.frozen;clear z j ai;obtain⟨cT,cQ,a,aT,be⟩:=aN.out;obtain⟨b,off,rfl,bf,_⟩:=aT.at_ 0 Qd;have ck:=a.cell;have cj:=a.frozen)|(go_at_call 153;refine(aq.out _).mono ?_;rintro e bD ⟨rfl,rfl⟩;clear aq));all_goals
     first|have bH:=PA.next_a a aT (be b off rfl Qd) bf (by assumption)|have bH:=PA.next_b a aT (be b off rfl Qd) bf (by assumption)
     obtain⟨bU,az⟩:=bH;have ba:ar.heap.size≠g:=by have:=aC.out.lt;omega
     have b4:=O (ap aO.out az);have b5:=O (ad.out.grown az (λe=>bb (I e)));have a2:=O (aA.out.grown az (λe=>aE (I e)));have bY:=O (bu.out.grown az (λe=>ba (I e)));have cs:=O (aL.out.keep (.of_grown az λb a e=>by injection e with e;omega) (λb a _=>a));have bx:=O bU;clear a aT be bf ck cj aS bd bc az bU;generalize World.setCell _ _ _=aQ at*;have cM:g<aQ.heap.size:=bx.out.lt;have cx:M.heap.size<aQ.heap.size:=b5.out.lt;have cC:w.heap.size<aQ.heap.size:=a2.out.lt
     cases hpe:bS k (L+1) q with
     |error p=>
      obtain⟨aD,bo⟩:=p;have aB:=O (show bS (f+1) o l=.error (aD,bo)from by rw[bZ.out,hpe];rfl);refine bV 9 7 [(6,λv=>v=.agg #[.int i64 0,.string ⟨#[]⟩,.string ⟨#[]⟩,.string ⟨#[]⟩,.int i64 0,.slice none 0 0],λ_ _=>False),(7,λv=> ∃ag,v=.slice (some ⟨ag,0,none⟩) 2 2,λ_ _=>True)] 6 (some g) mixed Qb ⟨λ_ _ _ A _=>A,λ_ _ _ A _=>A,trivial⟩ ⟨.inl rfl,.inr λ_ _ _ A _=>A,trivial⟩ ?_;repeat (refine sx ?_ (λw R=> ?_) ?_;rotate_left;(focus have co:=(bY.out.grown (aJ R) (λe=>ba (I e))).cell;have cn:=(a2.out.grown (aJ R) (λe=>aE (I e))).cell;clear R;go_simp<;>with_reducible rfl);simp only[a8,a7,a6,aZ,aY])
      refine bR _ _ Qe rfl ⟨_,rfl⟩ rfl (λX an K bq ay=> ?_) ?_
      ·clear K;have bi:=bP k Qa (L+1) q en X g (bx.out.ext an.un) Qa Qa bL;have bt:=O an.un;clear an;go_simp;refine bi.mono ?_;intro e ca ab;rw[hpe]at ab;obtain⟨ac,rfl⟩:=ab;unfold bh;intro cS ci;exact⟨ci,h_ aB.out (ap b4.out (ap (bt.out.grownBy _) ac))⟩
      rintro _ rfl;simp only[a8,a7,a6,aZ,aY];refine bg _ _ Qe rfl ⟨_,0,rfl⟩ Qd (λX R K bq ay=> ?_) ?_
      ·clear K;go_simp;exact ay _ _ (Z X _) ⟨_,rfl⟩ trivial
      rintro _ ⟨ag,rfl⟩;simp only[a8,a7,a6,aZ,aY];repeat (refine sx ?_ (λw R=> ?_) ?_;rotate_left;(focus go_simp<;>with_reducible rfl);simp only[a8,a7,a6,aZ,aY])
      intro X cy K;exact(K _ (.tail _ (.head _))).elim
     |ok p=>
      obtain⟨y,aD⟩:=p;have cD:=(jV k).1 _ _ _ _ hpe;have cq:=O (show gB k o (.mk 7 tt [] [] 0 [x,y]) aD=bS (f+1) o l from by rw[bZ.out,hpe];rfl)
      refine bV 9 7 [(6,λv=> ∃G n c,v=.agg #[.int i64 y.k,.string (J y.op),.string (J y.nm),.string (J y.tx),.int i64 y.v,.slice G n c],λv aP=> ∀G n c,v=.agg #[.int i64 y.k,.string (J y.op),.string (J y.nm),.string (J y.tx),.int i64 y.v,.slice G n c]->c7 aP (λb=>aQ.heap.size<=b) (.slice G n c) y.args/\PA aP g aD en),
        (7,λv=> ∃ag,v=.slice (some ⟨ag,0,none⟩) 2 2,λv aP=>c7 aP (λb=>M.heap.size<b/\b≠w.heap.size) v [x,y])] 6 (some g) mixed Qb
       ⟨λ_ _ _ A av G n c e=>⟨(A G n c e).1.keep (.of_ext av) (λ_ a _=>a),(A G n c e).2.ext av⟩,λ_ _ _ A av=>A.keep (.of_ext av) (λ_ a _=>a),trivial⟩
       ⟨.inl rfl,.inr λ_ _ _ A av=>A.keep (.of_grown av λb a e=>by injection e with e;omega) (λ_ a _=>a),trivial⟩ ?_
      repeat (refine sx ?_ (λw R=> ?_) ?_;rotate_left;(focus have co:=(bY.out.grown (aJ R) (λe=>ba (I e))).cell;have cn:=(a2.out.grown (aJ R) (λe=>aE (I e))).cell;clear R;go_simp<;>with_reducible rfl);simp only[a8,a7,a6,aZ,aY])
      refine bR _ _ Qe rfl ⟨_,none,0,0,rfl⟩ rfl (λX an K bq ay=> ?_) ?_
      ·clear K;have bi:=bP k Qa (L+1) q en X g (bx.out.ext an.un) Qa Qa bL;have bt:=O an.un;clear an;go_simp;refine bi.mono ?_;intro e ca ab;rw[hpe]at ab;obtain⟨ac,G,n,c,rfl,aW,aK⟩:=ab;exact ay _ _ ac ⟨_,_,_,rfl⟩ (λcU cv cR e=>by injection e with e;simp only[fB,d_,d5,and_true,true_and]at e;obtain⟨rfl,rfl,rfl⟩:=e;exact⟨aW.mono (λb a _=>aR (dz bt.out) a),aK⟩)
      rintro _ ⟨b8,bF,bW,rfl⟩;simp only[a8,a7,a6,aZ,aY];refine bg _ _ Qe rfl ⟨_,0,rfl⟩ Qd (λX R K bq ay=> ?_) ?_
      ·have aX:=(K _ (.head _) Qb) b8 bF bW rfl;have bN:=aJ R;have cw:=bN.size;have cd:=cs.out.keep (.of_grown bN λb a e=>by injection e with e;omega) (λb a _=>a);clear K R;go_simp;exact ay _ _ (Z X _) ⟨_,rfl⟩ (c7.two (aw X _ _) ⟨by omega,by omega⟩ (cd.keep (.of_ext (Z X _)) (λ_ a _=>a)) (aX.1.keep (.of_ext (Z X _)) (λb a _=>⟨by omega,by omega⟩)))
      rintro _ ⟨ag,rfl⟩;simp only[a8,a7,a6,aZ,aY];repeat (refine sx ?_ (λw R=> ?_) ?_;rotate_left;(focus go_simp<;>with_reducible rfl);simp only[a8,a7,a6,aZ,aY])
      intro b9 ax K;have bQ:=K _ (.head _);have aX:=(K _ (.tail _ (.head _)) b8 bF bW rfl).2;clear K;simp only[ae,au];have ax:=aJ ax;have aV:=a2.out.grown ax (λe=>aE (I e));have aI:=dx w.heap.size [.int i64 7,.string (J tt),.string ⟨#[]⟩,.string ⟨#[]⟩,.int i64 0,.slice (some ⟨ag,0,none⟩) 2 2] 0 b9;have bm:=d8 (ap b4.out ax) aI (aM cf);have bj:=aU.put6 aV (.int i64 7) (.string (J tt)) (.string ⟨#[]⟩) (.string ⟨#[]⟩) (.int i64 0) (.slice (some ⟨ag,0,none⟩) 2 2);have bn:=(b5.out.grown ax (λe=>bb (I e))).grown aI (λe=>ce (I e));have bk:=bQ.keep (.of_grown aI λb a e=>a.2 (I e)) (λb a _=>a);have bl:=aX.grown aI (λk e=>by injection e with e;omega);simp only[World.setCells,aG,Nat.reduceAdd]at bm bj bn bk bl;have aS:=aV.cell;have cB:=aV.frozen;have ct:=O bm;have cp:=O bj;have cu:=O bn;have cr:=O bk;have b2:=O bl;clear ax aV aI bm bj bn bk bl bQ aX;go_wp2_with fail;go_roundw
      case rel=>exact⟨k,.mk 7 tt [] [] 0 [x,y],some ⟨ag,0,none⟩,2,2,aD,by omega,by omega,cq,b2,cp,cr,cu,ct⟩
      case measure=>rw[aC.out.tokN,b2.out.tokN];simp only[ah];omega
theorem p': ∀(f:Nat),f<=400000->(∀i,i<=f->fL i)/\rL f/\jG f
 |0,_=>by
  refine⟨λi z=> ?_,?_,?_⟩
  ·obtain rfl:i=0:=Qa
   intro n l en o g a _ _ j;omega
  ·intro l en o g a j;omega
  ·intro nm l en o g a j;omega
 |f+1,j=>by
  obtain⟨h,w,G⟩:=p' f Qa;have A:=yJ f w h
  exact⟨λi z=>by
   rcases gt f i with a|a
   ·obtain rfl:i=f+1:=Qa
    exact A
   ·exact h i a,yo f (h f (ak _)) w G,vK f Qa h⟩
theorem Bp {f:Nat} (a:f<=400000):fL f:=(p' f a).1 f (ak _)
theorem yC {f:Nat} (a:f<=400000):jG f:=(p' f a).2.2
def y8 (g:Nat) (en:Int) (w:World) (r:PR St) (e:Ending) (w':World):Prop:=
 w.grownBy w' (some g)/\match r with
 | .ok (s,q)=> ∃A n c B m d C k i,e=.returned (.agg #[.int i64 s.k,.string (J s.nm),.slice A n c,.slice B m d,.slice C k i])/\
   SV.ok w' (λb=>w.heap.size<=b) ⟨s,.slice A n c,.slice B m d,.slice C k i⟩/\PA w' g q en
 | .error (q,n)=>e=bh en q n
def GD (g:Nat) (en:Int) (w:World) (r:PR (List St)) (e:Ending) (w':World):Prop:=
 w.grownBy w' (some g)/\match r with
 | .ok (b,q)=> ∃A n c,e=.returned (.slice A n c)/\db w' (λb=>w.heap.size<=b) (.slice A n c) b/\PA w' g q en
 | .error (q,n)=>e=bh en q n
theorem dI {g:Nat} {en:Int} {a w':World} {r:PR St} {q:List bT} {n:Int} (h:r=.error (q,n)) (j:a.grownBy w' (some g)):y8 g en a r (bh en q n) w':=by
 subst h;exact⟨j,rfl⟩
theorem wP {g:Nat} {en:Int} {a w':World} {r:PR (List St)} {q:List bT} {n:Int} (h:r=.error (q,n)) (j:a.grownBy w' (some g)):GD g en a r (bh en q n) w':=by
 subst h;exact⟨j,rfl⟩
def m8 (f:Nat):Prop:= ∀(l:List bT) (en:Int) (w:World) (g:Nat),PA w g l en->4*l.length+1<=f->Calls prog 104 #[.pointer (some ⟨g,0,none⟩)] w (GD g en w (dn f l))
def FO (f:Nat):Prop:= ∀(l:List bT) (en:Int) (w:World) (g:Nat),PA w g l en->4*l.length+3<=f->Calls prog 182 #[.pointer (some ⟨g,0,none⟩)] w (y8 g en w (nP f l))
def B_ (f:Nat):Prop:= ∀(l:List bT) (en:Int) (w:World) (g:Nat),PA w g l en->4*l.length+3<=f->Calls prog 148 #[.pointer (some ⟨g,0,none⟩)] w (y8 g en w (dg f l))
theorem If:ox prog 57 72 5 96 (.agg #[.int i64 0,.string ⟨#[]⟩,.slice none 0 0,.slice none 0 0,.slice none 0 0]):=⟨underlying57,by kernel_rfl,by rfl,by decide⟩
theorem wL (s:St) (h B C:Option Addr) (n m k c d i:Nat): ∀u∈uS ⟨s,.slice h n c,.slice B m d,.slice C k i⟩,u.oneCell'=true:=by
 intro u a;simp only[uS,ew,dw,or_false]at a;rcases a with rfl|rfl|rfl|rfl|rfl<;>rfl
theorem v7 (f:Nat) (bf:f<=400000) (aN: ∀i,i<=f->B_ i):m8 (f+1):=by
 intro l en M g av bg;have aA:=O av;have be:=av.lt;have az:=O (show dn (f+1) l=(bw FQ l).then λ_ r=>d7 f [] r from by rw[dn]);clear av;go_enter func104,ntmps104
 cases hlb:bX FQ l with
 |false=>
  have G:=O (show dn (f+1) l=.error (l,3)from by rw[az.out];unfold bw;rw[hlb];rfl);go_wp2_with (go_at_call 100;refine(gX g _ en FQ _ aA.out hlb).mono ?_;unfold bh;rintro e aW ⟨rfl,w⟩;have an:=O w;clear w);exact⟨rfl,wP G.out an.out⟩
 |true=>
  have G:=O (show d7 f [] l.tail=dn (f+1) l from by rw[az.out];unfold bw;rw[hlb];rfl);have bc:=bG hlb;go_wp2_with (go_at_call 100;refine(eV g _ en FQ _ aA.out hlb).mono ?_;rintro e aW ⟨rfl,o,a⟩;have aS:=O o;have an:=O a;clear o a);clear az aA
  go_loopw [3] (λaE wr=> ∃(k:Nat) (j:List SV) (r:List bT) (C:Option Addr) (n ah:Nat),aE=.slice C n ah/\j.length=n/\4*r.length+4<=k/\k<=f/\n+r.length<=l.length/\Hid (d7 k (j.map (·.s)) r=dn (f+1) l)/\Hid (PA wr g r en)/\
   Hid (iT wr M.heap.size 72 (.slice C n ah) j)/\Hid (M.grownBy wr (some g))) (λaE wr=>tokN g wr)
  case atStart=>exact⟨f,[],l.tail,none,0,0,rfl,rfl,by omega,ak _,by simp only[List.length_tail];omega,G,aS,O (iT.nil_ _ _ _),an⟩
  case round=>
   clear G aS an;obtain⟨k,j,r,C,n,ah,rfl,ag,aJ,bd,bb,ay,X,aB,aC⟩:=hrel;obtain⟨k,rfl⟩: ∃aX,k=aX+1:=⟨k-1,by omega⟩
   have ax:=O (show d7 (k+1) (j.map (·.s)) r=if bX Ek r then .ok (j.map (·.s),r.tail)else(dg k r).then λs q=>d7 k (j.map (·.s)++[s]) q from by rw[d7])
   cases hrb:bX Ek r with
   |true=>
    have G:=O (show dn (f+1) l=.ok (j.map (·.s),r.tail)from by rw[<-ay.out,ax.out,if_pos hrb]);go_wp2_with (go_at_call 98;refine(cQ g r en Ek _ X.out).mono ?_;rw[hrb];simp only[if_true];rintro e aD ⟨rfl,o,a⟩;have I:=O o;have K:=O (ap aC.out a);have ab:=O (aB.out.grown a (λk e=>by injection e with e;omega));clear o a);go_ret;rw[G.out];exact⟨K.out,_,_,_,rfl,ab.out.rd,I.out⟩
   |false=>
    have aP:=O (show dn (f+1) l=(dg k r).then λs q=>d7 k (j.map (·.s)++[s]) q from by rw[<-ay.out,ax.out,if_neg (by rw[hrb];simp)]);have aL:4*r.length+3<=k:=Qa
    clear ay ax
    cases hps:dg k r with
    |error p=>
     obtain⟨q,aZ⟩:=p;have G:=O (show dn (f+1) l=.error (q,aZ)from by rw[aP.out,hps];rfl)
     go_wp2_with (first
      |(go_at_call 98;refine(cQ g r en Ek _ X.out).mono ?_;rw[hrb];simp only[aT,if_false];rintro e aD ⟨rfl,o,a⟩;have I:=O o;have K:=O (ap aC.out a);clear o a X)
      |(go_at_call 148;refine(aN k Qa r en _ g I.out aL).mono ?_;intro e ac R;rw[hps]at R;obtain⟨w,rfl⟩:=R;unfold bh;have z:=O (ap K.out w);clear w))
     exact⟨rfl,wP G.out z.out⟩
    |ok p=>
     obtain⟨s,q⟩:=p;have ba:=(oX k).2.2.2 _ _ _ hps;have a2:=O (show d7 k (j.map (·.s)++[s]) q=dn (f+1) l from by rw[aP.out,hps];rfl)
     go_wp2_with (first
      |(go_at_call 98;refine(cQ g r en Ek _ X.out).mono ?_;rw[hrb];simp only[aT,if_false];rintro e aD ⟨rfl,o,a⟩;have I:=O o;have K:=O (ap aC.out a);have ab:=O (aB.out.grown a (λk e=>by injection e with e;omega));clear o a aB)
      |(go_at_call 148;refine(aN k Qa r en _ g I.out aL).mono ?_;intro e ac R;rw[hps]at R;obtain⟨w,ar,af,al,aq,ae,aj,ao,ad,ai,rfl,aM,aO⟩:=R;have V:=Z ac (.cells #[.int i64 s.k,.string (J s.nm),.slice ar af al,.slice aq ae aj,.slice ao ad ai] 72);have a9:=K.out.size;have a8:=w.size;have z:=O (ap (ap K.out w) (V.grownBy (some g)));have aU:=O ((ab.out.grown w (λk e=>by injection e with e;omega)).ext V);have au:=World.ownsRow.lt ab.out.1;have a1:=O (aM.keep (.of_ext V) (Q:=λb=>M.heap.size<=b/\some b≠Value.ownBlock (.slice C n ah)) (λb bi _=>⟨by omega,λe=>by have:=(au b e.symm).2;omega⟩));have a3:=O (aO.ext V);have a5:=O (aw ac 72 #[.int i64 s.k,.string (J s.nm),.slice ar af al,.slice aq ae aj,.slice ao ad ai]);have aG:=λk aJ=>(au k aJ).1;clear w aM aO V au ab)
      |(at_builtin;refine eA If rfl _ _ rfl M.heap.size _ n (eN j) rfl (by have:=aU.out.1;rw[ag]at this;exact this) ac.heap.size (uS ⟨s,.slice ar af al,.slice aq ae aj,.slice ao ad ai⟩) rfl a5.out rfl (wL _ _ _ _ _ _ _ _ _ _) Qa Qc z.out.size ?_;intro a7 cap' aV aI A aH;have a4:=O (aU.out.snoc a1.out (by rw[ag];exact aI) A aH);have a6:=O (show M.grownBy aV (some g)from⟨A.os.trans z.out.os,A.tape.trans z.out.tape,A.output.trans z.out.output,aR z.out.size A.size,λi aK aY=>(A.block i (aF aK z.out.size) (λe=>by have:=aG i e.symm;omega)).trans (z.out.block i aK aY)⟩);have aQ:=O (a3.out.grown A (λk e=>by have:=aG k e;omega));clear aI A aH))
     go_roundw
     case rel=>exact⟨k,j++[⟨s,.slice ar af al,.slice aq ae aj,.slice ao ad ai⟩],q,some ⟨a7,0,none⟩,n+1,cap',rfl,by simp[ag],by omega,by omega,by omega,O (by simpa using a2.out),aQ,O (by have:=a4.out;rw[ag]at this;exact this),a6⟩
     case measure=>rw[X.out.tokN,aQ.out.tokN];omega
theorem db.one {o:World} {P:Nat->Prop} {j:Nat} {e:TypeId} {s:St} {z b c:Value} (h:aU o j e #[.int i64 s.k,.string (J s.nm),z,b,c]) (A:P j) (w:SV.ok o P ⟨s,z,b,c⟩):db o P (.slice (some ⟨j,0,none⟩) 1 1) [s]:=by
 refine .row j 0 1 1 [s] (λ_=>z) (λ_=>b) (λ_=>c) A h.lt rfl (ak _) (by simp[maxLen]) (λi a=> ?_) (λi a=> ?_) (λi a=> ?_) (λi a=> ?_);all_goals
  have a:i=0:=by simpa using a
  subst a
 ·exact⟨h.cell 0,h.cell 1,h.cell 2,h.cell 3,h.cell 4⟩
 ·exact w.1
 ·exact w.2.1
 ·exact w.2.2
theorem Fo {w W:World} {g a:Nat} {en:Int} {q:List bT} {R O M K G:Value} {r:PR St} (s:St) (k:Int) (o:ByteArray) (j:Option Addr) (n c:Nat) (B:Option Addr) (m d:Nat) (C:Option Addr) (i h:Nat) (V:r=.ok (s,q)) (ab:s.k=k) (I:J s.nm=o) (X:w.heap.size<=a)
  (ag:aU W a 72 #[R,O,M,K,G]) (af:w.grownBy W (some g)) (ae:PA W g q en) (ah:g<w.heap.size) (ad:SV.ok W (λb=>a<b) ⟨s,.slice j n c,.slice B m d,.slice C i h⟩):
  (∀A,(W.setCells a 0 [.int i64 k,.string o,.slice j n c,.slice B m d,.slice C i h]).cell? ⟨a,A,none⟩=(#[.int i64 k,.string o,.slice j n c,.slice B m d,.slice C i h]:Array Value)[A]?)/\
  y8 g en w r (.returned (.agg #[.int i64 k,.string o,.slice j n c,.slice B m d,.slice C i h])) (W.setCells a 0 [.int i64 k,.string o,.slice j n c,.slice B m d,.slice C i h]):=by
 subst V ab I;have z:=dx a [.int i64 s.k,.string (J s.nm),.slice j n c,.slice B m d,.slice C i h] 0 W;refine⟨(aU.put5' ag _ _ _ _ _).cell,d8 af z X,j,n,c,B,m,d,C,i,h,rfl,ad.keep (.of_grown z λb ac e=>by injection e with e;omega) λb ac _=>by omega,ae.grown z λk e=>by injection e with e;omega⟩
def gU (f:Nat) (l:List bT):PR St:=(iH l).then λnm r=>
 if bX kV r then(cG f nm r).then λx r=> .ok (.mk 7 [] [x] [] [],r)
 else if bX mV r then(bS f 1 r.tail).then λi r=>(bw qz r).then λ_ r=>(bw uX r).then λ_ r=>(bS f 1 r).then λx r=> .ok (.mk 3 nm [i,x] [] [],r)
 else(bw uX r).then λ_ r=>(bS f 1 r).then λx r=> .ok (.mk 2 nm [x] [] [],r)
theorem mW (f:Nat) (l:List bT) (o:bX Cc l=false) (j:bX pJ l=false) (h:bX lz l=false) (a:bX np l=false):dg (f+1) l=(gU f l).then λs r=>(bw mu r).then λ_ r=> .ok (s,r):=by
 rw[dg,if_neg (by rw[o];simp),if_neg (by rw[j];simp),if_neg (by rw[h];simp),if_neg (by rw[a];simp)];unfold gU
 cases iH l<;>rfl
theorem cW {s:List UInt8} {l:List bT} (a:bX s l=true):bw s l=.ok ((),l.tail):=by unfold bw;rw[a];rfl
theorem fE {s:List UInt8} {l:List bT} (a:bX s l=false):bw s l=.error (l,3):=by unfold bw;rw[a];rfl
theorem bY {l:List bT} (a:(cO l).k=1):iH l=.ok ((cO l).t,l.tail):=by unfold iH;rw[if_pos a]
theorem lU {l:List bT} (a: ¬(cO l).k=1):iH l=.error (l,3):=by unfold iH;rw[if_neg a]
theorem then_ok {α h:Type} (a:α) (r:List bT) (k:α->List bT->PR h):PR.then (.ok (a,r)) k=k a r:=rfl
theorem bZ {α a:Type} (q:List bT) (n:Int) (k:α->List bT->PR a):PR.then (.error (q,n)) k=.error (q,n):=rfl
structure SK (w:World) (g:Nat) (en:Int) (pb:Nat) (pc:Array Value) (sb:Nat) (sc:Array Value) (ty:TypeId) (X:World->Prop) (l:List bT) (W:World):Prop where
 pa:PA W g l en
 gr:w.grownBy W (some g)
 rb:aU W pb ty pc
 sv:aU W sb ty sc
 nn:g<w.heap.size/\w.heap.size<=pb/\pb<=sb
 xx:X W
 hx: ∀k,k=g\/k=sb-> ∀V V':World,V.grownBy V' (some k)->X V->X V'
section
variable {w W W':World} {g pb sb:Nat} {en:Int} {pc sc:Array Value} {ty:TypeId} {X:World->Prop} {l l':List bT}
theorem SK.step (a:SK w g en pb pc sb sc ty X l W) (j:PA W' g l' en) (h:W.grownBy W' (some g)):SK w g en pb pc sb sc ty X l' W':=
 ⟨j,ap a.gr h,a.rb.grown h (λe=>by have:=a.nn;injection e with e;omega),a.sv.grown h (λe=>by have:=a.nn;injection e with e;omega),a.nn,a.hx _ (.inl rfl) _ _ h a.xx,a.hx⟩
theorem SK.ext (h:SK w g en pb pc sb sc ty X l W) (a:az W W'):SK w g en pb pc sb sc ty X l W':=h.step (h.pa.ext a) (a.grownBy _)
theorem SK.cells (a:SK w g en pb pc sb sc ty X l W):(∀i,W.cell? ⟨pb,i,none⟩=pc[i]?)/\(∀i,W.frozen? ⟨pb,i,none⟩=false)/\(∀i,W.cell? ⟨sb,i,none⟩=sc[i]?)/\ ∀i,W.frozen? ⟨sb,i,none⟩=false:=
 ⟨a.rb.cell,a.rb.frozen,a.sv.cell,a.sv.frozen⟩
theorem SK.yes (h:SK w g en pb pc sb sc ty X l W) {s:List UInt8} (j:bX s l=true):Calls prog 98 #[.pointer (some ⟨g,0,none⟩),.string (J s)] W λe W'=>e=.returned (.bool true)/\Hid (SK w g en pb pc sb sc ty X l.tail W'):=by
 have:=cQ g l en s W h.pa;rw[j]at this;exact this.mono λe W' a=>⟨a.1,O (h.step a.2.1 a.2.2)⟩
theorem SK.no (h:SK w g en pb pc sb sc ty X l W) {s:List UInt8} (j:bX s l=false):Calls prog 98 #[.pointer (some ⟨g,0,none⟩),.string (J s)] W λe W'=>e=.returned (.bool false)/\Hid (SK w g en pb pc sb sc ty X l W'):=by
 have:=cQ g l en s W h.pa;rw[j]at this;exact this.mono λe W' a=>⟨a.1,O (h.step a.2.1 a.2.2)⟩
theorem SK.is (h:SK w g en pb pc sb sc ty X l W) {s:List UInt8} {b:Bool} (j:bX s l=b):Calls prog 145 #[.pointer (some ⟨g,0,none⟩),.string (J s)] W λe W'=>e=.returned (.bool b)/\Hid (SK w g en pb pc sb sc ty X l W'):=by
 have:=iq g l en s W h.pa;rw[j]at this;exact this.mono λe W' a=>⟨a.1,O (h.ext a.2)⟩
theorem SK.want (h:SK w g en pb pc sb sc ty X l W) {s:List UInt8} (j:bX s l=true):Calls prog 100 #[.pointer (some ⟨g,0,none⟩),.string (J s)] W λe W'=>e=.returned (.tuple #[])/\Hid (SK w g en pb pc sb sc ty X l.tail W'):=
 (eV g l en s W h.pa j).mono λe W' a=>⟨a.1,O (h.step a.2.1 a.2.2)⟩
theorem SK.bad (h:SK w g en pb pc sb sc ty X l W) {s:List UInt8} (j:bX s l=false):Calls prog 100 #[.pointer (some ⟨g,0,none⟩),.string (J s)] W λe W'=>e=bh en l 3/\Hid (w.grownBy W' (some g)):=
 (gX g l en s W h.pa j).mono λe W' a=>⟨a.1,O (ap h.gr a.2)⟩
theorem SK.name (h:SK w g en pb pc sb sc ty X l W) (j:(cO l).k=1):Calls prog 101 #[.pointer (some ⟨g,0,none⟩)] W λe W'=>e=.returned (.string (J (cO l).t))/\Hid (SK w g en pb pc sb sc ty X l.tail W'):=
 (jR g l en W h.pa j).mono λe W' a=>⟨a.1,O (h.step a.2.1 a.2.2)⟩
theorem SK.noname (h:SK w g en pb pc sb sc ty X l W) (j: ¬(cO l).k=1):Calls prog 101 #[.pointer (some ⟨g,0,none⟩)] W λe W'=>e=bh en l 3/\Hid (w.grownBy W' (some g)):=
 (pW g l en W h.pa j).mono λe W' a=>⟨a.1,O (ap h.gr a.2)⟩
theorem SK.with (h:SK w g en pb pc sb sc ty X l W) {Y:World->Prop} (K:Y W) (G: ∀k,k=g\/k=sb-> ∀a j:World,a.grownBy j (some k)->Y a->Y j):SK w g en pb pc sb sc ty (λa=>X a/\Y a) l W:=
 ⟨h.pa,h.gr,h.rb,h.sv,h.nn,⟨h.xx,K⟩,λk o a j z A=>⟨h.hx k o a j z A.1,G k o a j z A.2⟩⟩
theorem SK.expr (a:SK w g en pb pc sb sc ty X l W) {f:Nat} (ac:fL f) (R:4*l.length+2<=f) {x:Ex} {q:List bT} (o:bS f 1 l=.ok (x,q)):Calls prog 183 #[.pointer (some ⟨g,0,none⟩),.int i64 1] W λe W'=>
  ∃h n c,e=.returned (.agg #[.int i64 x.k,.string (J x.op),.string (J x.nm),.string (J x.tx),.int i64 x.v,.slice h n c])/\
   Hid (SK w g en pb pc sb sc ty (λz=>X z/\c7 z (λb=>sb<b) (.slice (some ⟨W'.heap.size,0,none⟩) 1 1) [x]) q (W'.alloc (.cells #[.int i64 x.k,.string (J x.op),.string (J x.nm),.string (J x.tx),.int i64 x.v,.slice h n c] 70))):=by
 have ag:=a;have A:=ac 1 l en W g a.pa Qc Qc R;rw[o]at A;refine A.mono λe W' M=> ?_;obtain⟨G,h,n,c,rfl,I,ab⟩:=M;have K:=Z W' (.cells #[.int i64 x.k,.string (J x.op),.string (J x.nm),.string (J x.tx),.int i64 x.v,.slice h n c] 70);have ae:=a.sv.lt;have ad:=G.size;refine⟨h,n,c,rfl,O (((a.step ab G).ext K).with (sU (aw W' _ _) Qa (I.keep (.of_ext K) (λb j _=>by omega))) λk af z ah V o=>o.keep (.of_grown V λb j e=>by have:=a.nn;injection e with e;omega) (λb j _=>j))⟩
theorem SK.xerr (j:SK w g en pb pc sb sc ty X l W) {f:Nat} (z:fL f) (o:4*l.length+2<=f) {q:List bT} {n:Int} (A:bS f 1 l=.error (q,n)):Calls prog 183 #[.pointer (some ⟨g,0,none⟩),.int i64 1] W λe W'=>e=bh en q n/\Hid (w.grownBy W' (some g)):=by
 have h:=z 1 l en W g j.pa Qc Qc o;rw[A]at h;exact h.mono λe W' a=>⟨a.2,O (ap j.gr a.1)⟩
theorem SK.block (a:SK w g en pb pc sb sc ty X l W) {f:Nat} (ab:m8 f) (K:4*l.length+1<=f) {x:List St} {q:List bT} (o:dn f l=.ok (x,q)):Calls prog 104 #[.pointer (some ⟨g,0,none⟩)] W λe W'=>
  ∃h n c,e=.returned (.slice h n c)/\Hid (SK w g en pb pc sb sc ty (λz=>X z/\db z (λb=>sb<b) (.slice h n c) x) q W'):=by
 have A:=ab l en W g a.pa K;rw[o]at A;refine A.mono λe W' G=> ?_;obtain⟨I,h,n,c,rfl,R,V⟩:=G;have ac:=a.sv.lt;exact⟨h,n,c,rfl,O ((a.step V I).with (R.mono (λb j _=>by omega)) λk ad z ae M o=>o.keep (.of_grown M λb j e=>by have:=a.nn;injection e with e;omega) (λb j _=>j))⟩
theorem SK.berr (j:SK w g en pb pc sb sc ty X l W) {f:Nat} (z:m8 f) (o:4*l.length+1<=f) {q:List bT} {n:Int} (A:dn f l=.error (q,n)):Calls prog 104 #[.pointer (some ⟨g,0,none⟩)] W λe W'=>e=bh en q n/\Hid (w.grownBy W' (some g)):=by
 have h:=z l en W g j.pa o;rw[A]at h;exact h.mono λe W' a=>⟨a.2,O (ap j.gr a.1)⟩
theorem SK.if (h:SK w g en pb pc sb sc ty X l W) {f:Nat} (I:FO f) (R:4*l.length+3<=f) {s:St} {q:List bT} (A:nP f l=.ok (s,q)):Calls prog 182 #[.pointer (some ⟨g,0,none⟩)] W λe W'=>
  ∃j n c B m d C i a,e=.returned (.agg #[.int i64 s.k,.string (J s.nm),.slice j n c,.slice B m d,.slice C i a])/\Hid (SK w g en pb pc sb sc ty (λG=>X G/\SV.ok G (λb=>sb<b) ⟨s,.slice j n c,.slice B m d,.slice C i a⟩) q W'):=by
 have K:=I l en W g h.pa R;rw[A]at K;refine K.mono λe W' M=> ?_;obtain⟨ab,j,n,c,B,m,d,C,i,a,rfl,z,V⟩:=M;have ac:=h.sv.lt;exact⟨j,n,c,B,m,d,C,i,a,rfl,O ((h.step V ab).with (z.keep ⟨ak _,λ_ _ _=>rfl⟩ (λb o _=>by omega)) λk ad G ae z A=>A.keep (.of_grown z λb o e=>by have:=h.nn;injection e with e;omega) (λb o _=>o))⟩
theorem SK.ierr (j:SK w g en pb pc sb sc ty X l W) {f:Nat} (z:FO f) (o:4*l.length+3<=f) {q:List bT} {n:Int} (A:nP f l=.error (q,n)):Calls prog 182 #[.pointer (some ⟨g,0,none⟩)] W λe W'=>e=bh en q n/\Hid (w.grownBy W' (some g)):=by
 have h:=z l en W g j.pa o;rw[A]at h;exact h.mono λe W' a=>⟨a.2,O (ap j.gr a.1)⟩
theorem SK.put5 {K G A z o:Value} (a:SK w g en pb pc sb #[K,G,A,z,o] ty X l W) (O:pb<sb) (j b c d e:Value):SK w g en pb pc sb #[j,b,c,d,e] ty X l (W.setCells sb 0 [j,b,c,d,e]):=by
 have h:=dx sb [j,b,c,d,e] 0 W;have M:=a.nn;exact⟨a.pa.grown h (λk e=>by injection e with e;omega),d8 a.gr h Qa,a.rb.grown h (λe=>by injection e with e;omega),aU.put5' a.sv ..,M,a.hx _ (.inr rfl) _ _ h a.xx,a.hx⟩
theorem SK.set (a:SK w g en pb pc sb sc ty X l W) (o:pb<sb) (i:Nat) (v:Value):SK w g en pb pc sb (sc.setIfInBounds i v) ty X l (W.setCell ⟨sb,i,none⟩ v):=by
 have h:=eF W sb i v;have j:=a.nn;exact⟨a.pa.grown h (λk e=>by injection e with e;omega),d8 a.gr h Qa,a.rb.grown h (λe=>by injection e with e;omega),a.sv.set i v,j,a.hx _ (.inr rfl) _ _ h a.xx,a.hx⟩
theorem SK.one (h:PA w g l en) (a:Array Value) (ty:TypeId):SK w g en w.heap.size a w.heap.size a ty (λ_=>True) l (w.alloc (.cells a ty)):=
 ⟨h.ext (Z w _),(Z w _).grownBy _,aw w _ _,aw w _ _,⟨h.lt,ak _,ak _⟩,trivial,λ_ _ _ _ _ _=>trivial⟩
theorem SK.open (a:SK w g en pb pc pb pc ty X l W) (h:Array Value) {Y:World->Prop} (G:X W->Y (W.alloc (.cells h ty))) (A: ∀k,k=g\/k=W.heap.size-> ∀z o:World,z.grownBy o (some k)->Y z->Y o):SK w g en pb pc W.heap.size h ty Y l (W.alloc (.cells h ty)):=by
 have j:=Z W (.cells h ty);have K:=a.rb.lt;have M:=a.nn;exact⟨a.pa.ext j,ap a.gr (j.grownBy _),a.rb.ext j,aw W _ _,by omega,G a.xx,A⟩
theorem SK.app (a:SK w g en pb pc sb sc ty X l W) {row:Option Nat} (h:W.grownBy W' row) (j: ∀k,row=some k->sb<k) {Y:World->Prop} (O:Y W') (G: ∀k,k=g\/k=sb-> ∀A z:World,A.grownBy z (some k)->Y A->Y z):SK w g en pb pc sb sc ty Y l W':=by
 have M:=a.nn;refine⟨a.pa.grown h (λk e=>by have:=j k e;omega),⟨h.os.trans a.gr.os,h.tape.trans a.gr.tape,h.output.trans a.gr.output,aR a.gr.size h.size,λi o K=>(h.block i (aF o a.gr.size) (λe=>by have:=j i e.symm;omega)).trans (a.gr.block i o K)⟩,a.rb.grown h (λe=>by have:=j _ e.symm;omega),a.sv.grown h (λe=>by have:=j _ e.symm;omega),M,O,G⟩
end
theorem SK.fin {a W:World} {g X:Nat} {en:Int} {R O M K G:Value} {V:Array Value} {A:World->Prop} {q:List bT} (w:SK a g en a.heap.size #[R,O,M,K,G] X V 72 A q W) {r:PR St} (s:St) (k:Int) (h:ByteArray) (o:Option Addr) (n c:Nat) (B:Option Addr) (m d:Nat) (C:Option Addr) (i j:Nat) (I:r=.ok (s,q)) (ac:s.k=k) (ab:J s.nm=h)
  (ad:A W->SV.ok W (λb=>a.heap.size<b) ⟨s,.slice o n c,.slice B m d,.slice C i j⟩):
  (∀z,(W.setCells a.heap.size 0 [.int i64 k,.string h,.slice o n c,.slice B m d,.slice C i j]).cell? ⟨a.heap.size,z,none⟩=(#[.int i64 k,.string h,.slice o n c,.slice B m d,.slice C i j]:Array Value)[z]?)/\
  y8 g en a r (.returned (.agg #[.int i64 k,.string h,.slice o n c,.slice B m d,.slice C i j])) (W.setCells a.heap.size 0 [.int i64 k,.string h,.slice o n c,.slice B m d,.slice C i j]):=
 Fo s k h o n c B m d C i j I ac ab (ak _) w.rb w.gr w.pa w.nn.1 (ad w.xx)
section
variable {w W W':World} {g pb sb:Nat} {en:Int} {pc sc:Array Value} {ty:TypeId} {X:World->Prop} {l l':List bT}
theorem SK.open2 {e v:Value} {xs:List Ex} {z:List St} (G:SK w g en w.heap.size pc w.heap.size pc ty (λh=>(True/\c7 h (λb=>w.heap.size<b) e xs)/\db h (λb=>w.heap.size<b) v z) l W) (o:Array Value):
  SK w g en w.heap.size pc W.heap.size o ty (λh=>c7 h (λb=>w.heap.size<b/\b≠W.heap.size) e xs/\db h (λb=>w.heap.size<b/\b≠W.heap.size) v z) l (W.alloc (.cells o ty)):=by
 have R:=G.nn;refine G.open o (λj=>⟨j.1.2.keep (.of_ext (Z W _)) (λb a K=>⟨a,by omega⟩),j.2.keep (.of_ext (Z W _)) (λb a K=>⟨a,by omega⟩)⟩) λk V h O M j=> ?_;have A:cR (λb=>w.heap.size<b/\b≠W.heap.size) h O:=.of_grown M λb a e=>by injection e with e;omega
 exact⟨j.1.keep A (λb a _=>a),j.2.keep A (λb a _=>a)⟩
theorem SK.if1 (K:SK w g en pb pc sb sc ty X l W) {f:Nat} (ac:FO f) (ab:4*l.length+3<=f) {s:St} {q:List bT} (o:nP f l=.ok (s,q)):Calls prog 182 #[.pointer (some ⟨g,0,none⟩)] W λe W'=>
  ∃A n c B m d C i z,e=.returned (.agg #[.int i64 s.k,.string (J s.nm),.slice A n c,.slice B m d,.slice C i z])/\Hid (SK w g en pb pc sb sc ty (λj=>X j/\db j (λb=>sb<b) (.slice (some ⟨W'.heap.size,0,none⟩) 1 1) [s]) q (W'.alloc (.cells #[.int i64 s.k,.string (J s.nm),.slice A n c,.slice B m d,.slice C i z] 72))):=by
 refine(K.if ac ab o).mono λe W' I=> ?_;obtain⟨A,n,c,B,m,d,C,i,z,rfl,k⟩:=I;have k:=k.out;have R:=Z W' (.cells #[.int i64 s.k,.string (J s.nm),.slice A n c,.slice B m d,.slice C i z] 72);have ad:=k.sv.lt;refine⟨A,n,c,B,m,d,C,i,z,rfl,O ?_⟩;have a:=(k.ext R).with (Y:=λj=>db j (λb=>sb<b) (.slice (some ⟨W'.heap.size,0,none⟩) 1 1) [s]) (db.one (aw W' _ _) Qa (k.xx.2.keep (.of_ext R) (λ_ h _=>h))) λk M j V G o=>o.keep (.of_grown G λb h e=>by have:=K.nn;injection e with e;omega) (λb h _=>h);exact⟨a.pa,a.gr,a.rb,a.sv,a.nn,⟨a.xx.1.1,a.xx.2⟩,λk M j V G o=>⟨K.hx k M j V G o.1,o.2.keep (.of_grown G λb h e=>by have:=K.nn;injection e with e;omega) (λb h _=>h)⟩⟩
end
theorem DJ (f:Nat) (J:fL f) (af:m8 f) (al:FO f):FO (f+1):=by
 intro l en ae g G aE;have aD:=G.lt;have a:=O (SK.one G #[.int i64 0,.string ⟨#[]⟩,.slice none 0 0,.slice none 0 0,.slice none 0 0] 72);have av:ae.heap.size≠g:=Qa
 have aC:g≠ae.heap.size:=Qa
 obtain⟨A,z,w,o⟩:=a.out.cells;clear G;go_enter func182,ntmps182;have aj:4*l.length+2<=f:=Qa
 cases hx:bS f 1 l with
 |error p=>
  obtain⟨q,ai⟩:=p;go_wp2_with (go_at_call 183;refine(a.out.xerr J aj hx).mono ?_;unfold bh;rintro e K ⟨rfl,X⟩);exact⟨rfl,dI (by rw[nP,hx,bZ]) X.out⟩
 |ok p=>
  obtain⟨x,r⟩:=p;have ax:=(jV f).1 _ _ _ _ hx;have ak:4*r.length+1<=f:=Qa
  go_wp2_with (go_at_call 183;refine(a.out.expr J aj hx).mono ?_;rintro e V ⟨aM,n,c,rfl,a⟩;clear A z w o;obtain⟨A,z,w,o⟩:=a.out.cells)
  cases j:dn f r with
  |error p=>
   obtain⟨q,ai⟩:=p;go_wp2_with (go_at_call 104;refine(a.out.berr af ak j).mono ?_;unfold bh;rintro e K ⟨rfl,X⟩);exact⟨rfl,dI (by rw[nP,hx,then_ok,j,bZ]) X.out⟩
  |ok p=>
   obtain⟨b,I⟩:=p;have aA:=(oX f).1 _ _ _ j;go_wp2_with (go_at_call 104;refine(a.out.block af ak j).mono ?_;rintro e ad ⟨B,m,d,rfl,a⟩;have aq:=a.out.rb.lt;have a:=O (a.out.open2 #[.int i64 4,.string ⟨#[]⟩,.slice (some ⟨V.heap.size,0,none⟩) 1 1,.slice B m d,.slice none 0 0]);clear A z w o;obtain⟨A,z,w,o⟩:=a.out.cells);have au:ad.heap.size≠g:=Qa
   have aB:g≠ad.heap.size:=Qa
   have aw:ae.heap.size≠ad.heap.size:=Qa
   have ar:ad.heap.size≠ae.heap.size:=Qa
   cases he:bX qQ I with
   |true=>
    have az:=bG he;go_wp2_with (go_at_call 98;refine(a.out.yes he).mono ?_;rintro e K ⟨rfl,a⟩;clear A z w o;obtain⟨A,z,w,o⟩:=a.out.cells)
    cases hi:bX Cc I.tail with
    |true=>
     have ay:=bG hi;have ab:4*I.tail.tail.length+3<=f:=Qa
     go_wp2_with (go_at_call 98;refine(a.out.yes hi).mono ?_;rintro e K ⟨rfl,a⟩;clear A z w o;obtain⟨A,z,w,o⟩:=a.out.cells)
     cases hc:nP f I.tail.tail with
     |error p=>
      obtain⟨q,ai⟩:=p;go_wp2_with (go_at_call 182;refine(a.out.ierr al ab hc).mono ?_;unfold bh;rintro e K ⟨rfl,X⟩);exact⟨rfl,dI (by rw[nP,hx,then_ok,j,then_ok,if_pos he,if_pos hi,hc,bZ]) X.out⟩
     |ok p=>
      obtain⟨t,q⟩:=p;go_wp2_with (go_at_call 182;refine(a.out.if1 al ab hc).mono ?_;rintro e ag ⟨aL,ap,aI,aK,ao,aH,aJ,an,aF,rfl,a⟩;clear A z w o;obtain⟨A,z,w,o⟩:=a.out.cells;have k:=a.out.set Qa 4 (.slice (some ⟨ag.heap.size,0,none⟩) 1 1);simp only[World.setCells,aG,Nat.reduceAdd,br,cg,cw]at k;have a:=O k;clear k);obtain⟨M,R⟩:=a.out.fin (r:=nP (f+1) l) (.mk 4 [] [x] b [t]) 4 ⟨#[]⟩ (some ⟨V.heap.size,0,none⟩) 1 1 B m d (some ⟨ag.heap.size,0,none⟩) 1 1 (by rw[nP,hx,then_ok,j,then_ok,if_pos he,if_pos hi,hc,then_ok]) rfl rfl (λG=>⟨G.1.1.mono (λb j _=>j.1),G.1.2.mono (λb j _=>j.1),G.2.mono (λb j _=>by omega)⟩);simp only[World.setCells,aG,Nat.reduceAdd]at M R;exact bodyPost_ret (v:=.agg #[.int i64 4,.string ⟨#[]⟩,.slice (some ⟨V.heap.size,0,none⟩) 1 1,.slice B m d,.slice (some ⟨ag.heap.size,0,none⟩) 1 1]) (by simp[results,results182,go_sem,M]) rfl R
    |false=>
     have ab:4*I.tail.length+1<=f:=Qa
     have ac:=hi;go_wp2_with (go_at_call 98;refine(a.out.no ac).mono ?_;rintro e K ⟨rfl,a⟩;clear ac;clear A z w o;obtain⟨A,z,w,o⟩:=a.out.cells)
     cases hc:dn f I.tail with
     |error p=>
      obtain⟨q,ai⟩:=p;go_wp2_with (go_at_call 104;refine(a.out.berr af ab hc).mono ?_;unfold bh;rintro e K ⟨rfl,X⟩);exact⟨rfl,dI (by rw[nP,hx,then_ok,j,then_ok,if_pos he,if_neg (by simp[hi]),hc,bZ]) X.out⟩
     |ok p=>
      obtain⟨t,q⟩:=p;go_wp2_with (go_at_call 104;refine(a.out.block af ab hc).mono ?_;rintro e K ⟨C,i,ah,rfl,a⟩;clear A z w o;obtain⟨A,z,w,o⟩:=a.out.cells;have k:=a.out.set Qa 4 (.slice C i ah);simp only[World.setCells,aG,Nat.reduceAdd,br,cg,cw]at k;have a:=O k;clear k);obtain⟨M,R⟩:=a.out.fin (r:=nP (f+1) l) (.mk 4 [] [x] b t) 4 ⟨#[]⟩ (some ⟨V.heap.size,0,none⟩) 1 1 B m d C i ah (by rw[nP,hx,then_ok,j,then_ok,if_pos he,if_neg (by simp[hi]),hc,then_ok]) rfl rfl (λG=>⟨G.1.1.mono (λb j _=>j.1),G.1.2.mono (λb j _=>j.1),G.2.mono (λb j _=>by omega)⟩);simp only[World.setCells,aG,Nat.reduceAdd]at M R;exact bodyPost_ret (v:=.agg #[.int i64 4,.string ⟨#[]⟩,.slice (some ⟨V.heap.size,0,none⟩) 1 1,.slice B m d,.slice C i ah]) (by simp[results,results182,go_sem,M]) rfl R
   |false=>
    have ac:=he;go_wp2_with (go_at_call 98;refine(a.out.no ac).mono ?_;rintro e K ⟨rfl,a⟩;clear ac;clear A z w o;obtain⟨A,z,w,o⟩:=a.out.cells);obtain⟨M,R⟩:=a.out.fin (r:=nP (f+1) l) (.mk 4 [] [x] b []) 4 ⟨#[]⟩ (some ⟨V.heap.size,0,none⟩) 1 1 B m d none 0 0 (by rw[nP,hx,then_ok,j,then_ok,if_neg (by simp[he])]) rfl rfl (λG=>⟨G.1.mono (λb j _=>j.1),G.2.mono (λb j _=>j.1),.nil _ _⟩);simp only[World.setCells,aG,Nat.reduceAdd]at M R;exact bodyPost_ret (v:=.agg #[.int i64 4,.string ⟨#[]⟩,.slice (some ⟨V.heap.size,0,none⟩) 1 1,.slice B m d,.slice none 0 0]) (by simp[results,results182,go_sem,M]) rfl R
theorem gz.lit {w:World} {base:Nat} {x:Ex} {h:Option Addr} {n c:Nat} (a:base<=w.heap.size) (o:c7 w (λb=>base<=b) (.slice h n c) x.args):gz (w.alloc (.cells #[.int i64 x.k,.string (J x.op),.string (J x.nm),.string (J x.tx),.int i64 x.v,.slice h n c] 70)) base 70 (.slice (some ⟨w.heap.size,0,none⟩) 1 1) [(x,.slice h n c)]:=by
 refine⟨World.ownsRow_lit w _ 1 a (by simp[maxLen]) rfl,λp j=> ?_⟩;rw[cP]at j;subst j;exact o.keep (.of_ext (Z w _)) (λb a z=>⟨a,λe=>by have e:b=w.heap.size:=I e;omega⟩)
theorem sI (x:Ex) (h:Option Addr) (n c:Nat): ∀u∈uA x (.slice h n c),u.oneCell'=true:=by
 intro u a;simp only[uA,ew,dw,or_false]at a;rcases a with rfl|rfl|rfl|rfl|rfl|rfl<;>rfl
section
variable {w W W':World} {g pb sb:Nat} {en:Int} {pc sc:Array Value} {ty:TypeId} {X:World->Prop} {l l':List bT}
theorem SK.named (h:SK w g en pb pc sb sc ty X l W) {f:Nat} {nm:List UInt8} (ac:jG f) (R:4*l.length+1<=f) {x:Ex} {q:List bT} (o:cG f nm l=.ok (x,q)):Calls prog 206 #[.pointer (some ⟨g,0,none⟩),.string (J nm)] W λe W'=>
  ∃a n c,e=.returned (.agg #[.int i64 x.k,.string (J x.op),.string (J x.nm),.string (J x.tx),.int i64 x.v,.slice a n c])/\Hid (SK w g en pb pc sb sc ty (λz=>X z/\c7 z (λb=>sb<b) (.slice (some ⟨W'.heap.size,0,none⟩) 1 1) [x]) q (W'.alloc (.cells #[.int i64 x.k,.string (J x.op),.string (J x.nm),.string (J x.tx),.int i64 x.v,.slice a n c] 70))):=by
 have A:=ac nm l en W g h.pa R;rw[o]at A;refine A.mono λe W' M=> ?_;obtain⟨G,a,n,c,rfl,I,ab⟩:=M;have K:=Z W' (.cells #[.int i64 x.k,.string (J x.op),.string (J x.nm),.string (J x.tx),.int i64 x.v,.slice a n c] 70);have ae:=h.sv.lt;have ad:=G.size;exact⟨a,n,c,rfl,O (((h.step ab G).ext K).with (sU (aw W' _ _) Qa (I.keep (.of_ext K) (λb j _=>by omega))) λk af z ag V o=>o.keep (.of_grown V λb j e=>by have:=h.nn;injection e with e;omega) (λb j _=>j))⟩
theorem SK.nerr (j:SK w g en pb pc sb sc ty X l W) {f:Nat} {nm:List UInt8} (z:jG f) (o:4*l.length+1<=f) {q:List bT} {n:Int} (A:cG f nm l=.error (q,n)):Calls prog 206 #[.pointer (some ⟨g,0,none⟩),.string (J nm)] W λe W'=>e=bh en q n/\Hid (w.grownBy W' (some g)):=by
 have h:=z nm l en W g j.pa o;rw[A]at h;exact h.mono λe W' a=>⟨a.2,O (ap j.gr a.1)⟩
theorem SK.exOwn (h:SK w g en pb pc sb sc ty X l W) {f:Nat} (ab:fL f) (K:4*l.length+2<=f) {x:Ex} {q:List bT} (j:bS f 1 l=.ok (x,q)):Calls prog 183 #[.pointer (some ⟨g,0,none⟩),.int i64 1] W λe W'=>
  ∃a n c,e=.returned (.agg #[.int i64 x.k,.string (J x.op),.string (J x.nm),.string (J x.tx),.int i64 x.v,.slice a n c])/\Hid (SK w g en pb pc sb sc ty (λA=>gz A (sb+1) 70 (.slice (some ⟨W'.heap.size,0,none⟩) 1 1) [(x,.slice a n c)]) q (W'.alloc (.cells #[.int i64 x.k,.string (J x.op),.string (J x.nm),.string (J x.tx),.int i64 x.v,.slice a n c] 70))):=by
 have o:=ab 1 l en W g h.pa Qc Qc K;rw[j]at o;refine o.mono λe W' G=> ?_;obtain⟨z,a,n,c,rfl,R,V⟩:=G;have ad:=h.sv.lt;have ac:=z.size;have ae:=h.nn;have I:=gz.lit (x:=x) (base:=sb+1) (w:=W') Qa (R.mono (λb ag _=>by omega));exact⟨a,n,c,rfl,O (((h.step V z).ext (Z W' _)).app ⟨rfl,rfl,rfl,ak _,λ_ _ _=>rfl⟩ (row:=none) (λk e=>by cases e) I λk af A ah M j=>j.grown M (λk e=>by injection e with e;omega))⟩
end
theorem tu (f:Nat) (aD:fL f) (bd:jG f) (l:List bT) (en:Int) (an:World) (g:Nat) (j:PA an g l en) (bJ:4*l.length+2<=f):Calls prog 184 #[.pointer (some ⟨g,0,none⟩)] an (y8 g en an (gU f l)):=by
 have bI:=j.lt;have a:=O (SK.one j #[.int i64 0,.string ⟨#[]⟩,.slice none 0 0,.slice none 0 0,.slice none 0 0] 72);have bw:an.heap.size≠g:=Qa
 have bH:g≠an.heap.size:=Qa
 obtain⟨V,R,M,K⟩:=a.out.cells;clear j;go_enter func184,ntmps184;by_cases af:(cO l).k=1
 rotate_left
 ·go_wp2_with (go_at_call 101;refine(a.out.noname af).mono ?_;unfold bh;rintro e X ⟨rfl,ag⟩);exact⟨rfl,dI (by unfold gU;rw[lU af,bZ]) ag.out⟩
 have bA:=jc (l:=l) (by rw[af];decide);go_wp2_with (go_at_call 101;refine(a.out.name af).mono ?_;rintro e ad ⟨rfl,a⟩;have bu:=a.out.rb.lt;have a:=O (a.out.open (Y:=λaA=>gz aA (ad.heap.size+1) 70 (.slice none 0 0) []) #[.int i64 2,.string (J (cO l).t),.slice none 0 0,.slice none 0 0,.slice none 0 0] (λ_=>oA _ _ _) λ_ _ _ _ _ _=>oA _ _ _);have aP:ad.heap.size≠g:=Qa;have bF:g≠ad.heap.size:=Qa;have bx:an.heap.size≠ad.heap.size:=Qa;have bv:ad.heap.size≠an.heap.size:=Qa;clear V R M K;obtain⟨V,R,M,K⟩:=a.out.cells)
 cases hlp:bX kV l.tail with
 |true=>
  have bc:4*l.tail.length+1<=f:=Qa
  go_wp2_with (go_at_call 145;refine(a.out.is hlp).mono ?_;rintro e X ⟨rfl,a⟩;clear V R M K;obtain⟨V,R,M,K⟩:=a.out.cells)
  cases z:cG f (cO l).t l.tail with
  |error p=>
   obtain⟨q,a3⟩:=p;go_wp2_with (go_at_call 206;refine(a.out.nerr bd bc z).mono ?_;unfold bh;rintro e X ⟨rfl,ag⟩);exact⟨rfl,dI (by unfold gU;rw[bY af,then_ok,if_pos hlp,z,bZ]) ag.out⟩
  |ok p=>
   obtain⟨x,q⟩:=p;go_wp2_with (go_at_call 206;refine(a.out.named bd bc z).mono ?_;rintro e ba ⟨o,n,c,rfl,a⟩;clear V R M K;obtain⟨V,R,M,K⟩:=a.out.cells);obtain⟨ap,aq⟩:=a.out.fin (r:=gU f l) (.mk 7 [] [x] [] []) 7 ⟨#[]⟩ (some ⟨ba.heap.size,0,none⟩) 1 1 none 0 0 none 0 0 (by unfold gU;rw[bY af,then_ok,if_pos hlp,z,then_ok]) rfl rfl (λj=>⟨j.2.mono (λb G _=>by omega),.nil _ _,.nil _ _⟩);simp only[World.setCells,aG,Nat.reduceAdd]at ap aq;exact bodyPost_ret (v:=.agg #[.int i64 7,.string ⟨#[]⟩,.slice (some ⟨ba.heap.size,0,none⟩) 1 1,.slice none 0 0,.slice none 0 0]) (by simp[results,results184,go_sem,ap]) rfl aq
 |false=>
  go_wp2_with (go_at_call 145;refine(a.out.is hlp).mono ?_;rintro e X ⟨rfl,a⟩;clear V R M K;obtain⟨V,R,M,K⟩:=a.out.cells)
  cases hls:bX mV l.tail with
  |true=>
   have bC:=bG hls;have bb:4*l.tail.tail.length+2<=f:=Qa
   go_wp2_with (go_at_call 98;refine(a.out.yes hls).mono ?_;rintro e X ⟨rfl,a⟩;clear V R M K;obtain⟨V,R,M,K⟩:=a.out.cells)
   cases z:bS f 1 l.tail.tail with
   |error p=>
    obtain⟨q,a3⟩:=p;go_wp2_with (go_at_call 183;refine(a.out.xerr aD bb z).mono ?_;unfold bh;rintro e X ⟨rfl,ag⟩);exact⟨rfl,dI (by unfold gU;rw[bY af,then_ok,if_neg (by simp[hlp]),if_pos hls,z,bZ]) ag.out⟩
   |ok p=>
    obtain⟨x,r⟩:=p;have bz:=(jV f).1 _ _ _ _ z;go_wp2_with (go_at_call 183;refine(a.out.exOwn aD bb z).mono ?_;rintro e a9 ⟨o,n,c,rfl,a⟩;clear V R M K;obtain⟨V,R,M,K⟩:=a.out.cells;have k:=(a.out.set Qa 0 (.int i64 3)).set Qa 2 (.slice (some ⟨a9.heap.size,0,none⟩) 1 1);simp only[World.setCells,aG,Nat.reduceAdd,br,cg,cw]at k;have a:=O k;clear k)
    cases hrs:bX qz r with
    |true=>
     have bE:=bG hrs;go_wp2_with (go_at_call 100;refine(a.out.want hrs).mono ?_;rintro e X ⟨rfl,a⟩;clear V R M K;obtain⟨V,R,M,K⟩:=a.out.cells)
     cases heq:bX uX r.tail with
     |true=>
      have bD:=bG heq;have aK:4*r.tail.tail.length+2<=f:=Qa
      go_wp2_with (go_at_call 100;refine(a.out.want heq).mono ?_;rintro e aj ⟨rfl,a⟩;clear V R M K;obtain⟨V,R,M,K⟩:=a.out.cells)
      cases hy:bS f 1 r.tail.tail with
      |error p=>
       obtain⟨q,a3⟩:=p;refine bV 5 8 [(3,λv=>v=.agg #[.int i64 0,.string ⟨#[]⟩,.string ⟨#[]⟩,.string ⟨#[]⟩,.int i64 0,.slice none 0 0],λ_ _=>False),(4,λv=> ∃w,v=.slice (some ⟨w,0,none⟩) 1 1,λ_ _=>True)] 3 (some g) mixed Qb ⟨λ_ _ _ j _=>j,λ_ _ _ j _=>j,trivial⟩ ⟨.inl rfl,.inr λ_ _ _ j _=>j,trivial⟩ ?_;repeat (refine sx ?_ (λad ac=> ?_) ?_;rotate_left;(focus have a2:=(a.out.sv.grown (aJ ac) (λe=>aP (I e))).cell;clear ac;go_simp<;>with_reducible rfl);simp only[a8,a7,a6,aZ,aY])
       refine bR _ _ Qe rfl ⟨_,rfl⟩ rfl (λab ah A aB ai=> ?_) ?_
       ·clear A;have ay:=((a.out.ext ah.un).xerr aD aK hy)
        clear ah;go_simp;refine ay.mono ?_;unfold bh;rintro e aQ ⟨rfl,ag⟩;intro bq aT;exact⟨aT,dI (by unfold gU;rw[bY af,then_ok,if_neg (by simp[hlp]),if_pos hls,z,then_ok,cW hrs,then_ok,cW heq,then_ok,hy,bZ]) ag.out⟩
       rintro _ rfl;simp only[a8,a7,a6,aZ,aY];refine bg _ _ Qe rfl ⟨_,0,rfl⟩ Qd (λab ac A aB ai=> ?_) ?_
       ·clear A;go_simp;exact ai _ _ (Z ab _) ⟨_,rfl⟩ trivial
       rintro _ ⟨w,rfl⟩;simp only[a8,a7,a6,aZ,aY];intro ab bl A;exact(A _ (.tail _ (.head _))).elim
      |ok p=>
       obtain⟨y,q⟩:=p;have bn:g<aj.heap.size:=a.out.pa.lt;have bm:ad.heap.size<aj.heap.size:=a.out.sv.lt
       refine bV 5 8 [(3,λv=> ∃o n c,v=.agg #[.int i64 y.k,.string (J y.op),.string (J y.nm),.string (J y.tx),.int i64 y.v,.slice o n c],λv X=> ∀o n c,v=.agg #[.int i64 y.k,.string (J y.op),.string (J y.nm),.string (J y.tx),.int i64 y.v,.slice o n c]->c7 X (λb=>aj.heap.size<=b) (.slice o n c) y.args/\PA X g q en),
         (4,λv=> ∃w,v=.slice (some ⟨w,0,none⟩) 1 1,λv X=> ∀w,v=.slice (some ⟨w,0,none⟩) 1 1->aj.heap.size<=w/\ ∃o n c,aU X w 70 #[.int i64 y.k,.string (J y.op),.string (J y.nm),.string (J y.tx),.int i64 y.v,.slice o n c]/\c7 X (λb=>aj.heap.size<=b) (.slice o n c) y.args)] 3 (some g) mixed Qb ⟨λ_ _ _ j z o n c e=>⟨(j o n c e).1.keep (.of_ext z) (λ_ G _=>G),(j o n c e).2.ext z⟩,λ_ _ _ j z w e=>let⟨q0,o,n,c,q1,q2⟩:=j w e;⟨q0,o,n,c,q1.ext z,q2.keep (.of_ext z) (λ_ G _=>G)⟩,trivial⟩
        ⟨.inl rfl,.inr λ_ _ _ j z w e=>let⟨q0,o,n,c,q1,q2⟩:=j w e;⟨q0,o,n,c,q1.grown z (λe=>by injection e with e;omega),q2.keep (.of_grown z λb G e=>by injection e with e;omega) (λ_ G _=>G)⟩,trivial⟩ ?_
       repeat (refine sx ?_ (λad ac=> ?_) ?_;rotate_left;(focus have a2:=(a.out.sv.grown (aJ ac) (λe=>aP (I e))).cell;clear ac;go_simp<;>with_reducible rfl);simp only[a8,a7,a6,aZ,aY])
       refine bR _ _ Qe rfl ⟨_,none,0,0,rfl⟩ rfl (λab ah A aB ai=> ?_) ?_
       ·clear A;have ay:=aD 1 _ en ab g (a.out.pa.ext ah.un) Qc Qc aK;have a4:=O ah.un;clear ah;go_simp;refine ay.mono ?_;intro e aQ aI;rw[hy]at aI;obtain⟨a1,o,n,c,rfl,aW,aX⟩:=aI;exact ai _ _ a1 ⟨_,_,_,rfl⟩ (λal bj bp e=>by injection e with e;simp only[fB,d_,d5,and_true,true_and]at e;obtain⟨rfl,rfl,rfl⟩:=e;exact⟨aW.mono (λb G _=>aR (dz a4.out) G),aX⟩)
       rintro _ ⟨aC,ar,az,rfl⟩;simp only[a8,a7,a6,aZ,aY];refine bg _ _ Qe rfl ⟨_,0,rfl⟩ Qd (λab ac A aB ai=> ?_) ?_
       ·have ao:=(A _ (.head _) Qb) aC ar az rfl;have aS:=(aJ ac).size;clear A ac;go_simp;exact ai _ _ (Z ab _) ⟨_,rfl⟩ (λw e=>by injection e with e;injection e with e;injection e with e;subst e;exact⟨aS,aC,ar,az,aw ab _ _,ao.1.keep (.of_ext (Z ab _)) (λ_ G _=>G)⟩)
       rintro _ ⟨w,rfl⟩;simp only[a8,a7,a6,aZ,aY];intro bi ak A;obtain⟨bo,aO,aE,aN,aM,aL⟩:=A _ (.head _) w rfl;have ao:=(A _ (.tail _ (.head _)) aC ar az rfl).2;clear A;simp only[ae,au];have ak:=aJ ak;have bk:=ak.size;have av:=World.ownsRow.lt a.out.xx.1;have a:=O (a.out.step ao ak);have a5:=O (aL.mono (Q:=λb=>ad.heap.size+1<=b/\some b≠Value.ownBlock (.slice (some ⟨a9.heap.size,0,none⟩) 1 1)) (λb G _=>⟨by omega,λe=>by have:=(av b e.symm).2;omega⟩));clear ak ao aL V R M K;refine eA GH rfl _ _ rfl (ad.heap.size+1) _ 1 (gI [(x,.slice o n c)]) rfl a.out.xx.1 w (uA y (.slice aO aE aN)) rfl aM rfl (sI _ _ _ _) Qa Qc Qa ?_;intro al cap' bf aH ax aF;have a:=O (a.out.app (Y:=λaA=>gz aA (ad.heap.size+1) 70 (.slice (some ⟨al,0,none⟩) 2 cap') [(x,.slice o n c),(y,.slice aO aE aN)]) ax (λk e=>(av k e).1) (a.out.xx.snoc a5.out aH ax aF) λk af aA bt aV j=>j.grown aV (λk e=>by injection e with e;omega));obtain⟨V,R,M,K⟩:=a.out.cells;clear aH ax aF aM av;go_wp2_with fail;have a:=O (a.out.set Qa 2 (.slice (some ⟨al,0,none⟩) 2 cap'));obtain⟨ap,aq⟩:=a.out.fin (r:=gU f l) (.mk 3 (cO l).t [x,y] [] []) 3 (J (cO l).t) (some ⟨al,0,none⟩) 2 cap' none 0 0 none 0 0 (by unfold gU;rw[bY af,then_ok,if_neg (by simp[hlp]),if_pos hls,z,then_ok,cW hrs,then_ok,cW heq,then_ok,hy,then_ok]) rfl rfl (λj=>⟨by have:=j.rd.mono (Q:=λb=>an.heap.size<b) (λb G _=>by omega);simpa[St.ex]using this,.nil _ _,.nil _ _⟩);simp only[World.setCells,aG,Nat.reduceAdd]at ap aq;exact bodyPost_ret (v:=.agg #[.int i64 3,.string (J (cO l).t),.slice (some ⟨al,0,none⟩) 2 cap',.slice none 0 0,.slice none 0 0]) (by simp[results,results184,go_sem,ap]) rfl aq
     |false=>
      go_wp2_with (go_at_call 100;refine(a.out.bad heq).mono ?_;unfold bh;rintro e X ⟨rfl,ag⟩);exact⟨rfl,dI (by unfold gU;rw[bY af,then_ok,if_neg (by simp[hlp]),if_pos hls,z,then_ok,cW hrs,then_ok,fE heq,bZ]) ag.out⟩
    |false=>
     go_wp2_with (go_at_call 100;refine(a.out.bad hrs).mono ?_;unfold bh;rintro e X ⟨rfl,ag⟩);exact⟨rfl,dI (by unfold gU;rw[bY af,then_ok,if_neg (by simp[hlp]),if_pos hls,z,then_ok,fE hrs,bZ]) ag.out⟩
  |false=>
   have be:=hls;go_wp2_with (go_at_call 98;refine(a.out.no be).mono ?_;rintro e X ⟨rfl,a⟩;clear be;clear V R M K;obtain⟨V,R,M,K⟩:=a.out.cells)
   cases heq:bX uX l.tail with
   |true=>
    have bB:=bG heq;have aK:4*l.tail.tail.length+2<=f:=Qa
    go_wp2_with (go_at_call 100;refine(a.out.want heq).mono ?_;rintro e aj ⟨rfl,a⟩;clear V R M K;obtain⟨V,R,M,K⟩:=a.out.cells)
    cases hy:bS f 1 l.tail.tail with
    |error p=>
     obtain⟨q,a3⟩:=p;refine bV 5 8 [(3,λv=>v=.agg #[.int i64 0,.string ⟨#[]⟩,.string ⟨#[]⟩,.string ⟨#[]⟩,.int i64 0,.slice none 0 0],λ_ _=>False),(4,λv=> ∃w,v=.slice (some ⟨w,0,none⟩) 1 1,λ_ _=>True)] 3 (some g) mixed Qb ⟨λ_ _ _ j _=>j,λ_ _ _ j _=>j,trivial⟩ ⟨.inl rfl,.inr λ_ _ _ j _=>j,trivial⟩ ?_;repeat (refine sx ?_ (λad ac=> ?_) ?_;rotate_left;(focus have a2:=(a.out.sv.grown (aJ ac) (λe=>aP (I e))).cell;clear ac;go_simp<;>with_reducible rfl);simp only[a8,a7,a6,aZ,aY])
     refine bR _ _ Qe rfl ⟨_,rfl⟩ rfl (λab ah A aB ai=> ?_) ?_
     ·clear A;have ay:=((a.out.ext ah.un).xerr aD aK hy)
      clear ah;go_simp;refine ay.mono ?_;unfold bh;rintro e aQ ⟨rfl,ag⟩;intro bq aT;exact⟨aT,dI (by unfold gU;rw[bY af,then_ok,if_neg (by simp[hlp]),if_neg (by simp[hls]),cW heq,then_ok,hy,bZ]) ag.out⟩
     rintro _ rfl;simp only[a8,a7,a6,aZ,aY];refine bg _ _ Qe rfl ⟨_,0,rfl⟩ Qd (λab ac A aB ai=> ?_) ?_
     ·clear A;go_simp;exact ai _ _ (Z ab _) ⟨_,rfl⟩ trivial
     rintro _ ⟨w,rfl⟩;simp only[a8,a7,a6,aZ,aY];intro ab bl A;exact(A _ (.tail _ (.head _))).elim
    |ok p=>
     obtain⟨y,q⟩:=p;have bn:g<aj.heap.size:=a.out.pa.lt;have bm:ad.heap.size<aj.heap.size:=a.out.sv.lt
     refine bV 5 8 [(3,λv=> ∃o n c,v=.agg #[.int i64 y.k,.string (J y.op),.string (J y.nm),.string (J y.tx),.int i64 y.v,.slice o n c],λv X=> ∀o n c,v=.agg #[.int i64 y.k,.string (J y.op),.string (J y.nm),.string (J y.tx),.int i64 y.v,.slice o n c]->c7 X (λb=>aj.heap.size<=b) (.slice o n c) y.args/\PA X g q en),
       (4,λv=> ∃w,v=.slice (some ⟨w,0,none⟩) 1 1,λv X=> ∀w,v=.slice (some ⟨w,0,none⟩) 1 1->aj.heap.size<=w/\ ∃o n c,aU X w 70 #[.int i64 y.k,.string (J y.op),.string (J y.nm),.string (J y.tx),.int i64 y.v,.slice o n c]/\c7 X (λb=>aj.heap.size<=b) (.slice o n c) y.args)] 3 (some g) mixed Qb ⟨λ_ _ _ j z o n c e=>⟨(j o n c e).1.keep (.of_ext z) (λ_ G _=>G),(j o n c e).2.ext z⟩,λ_ _ _ j z w e=>let⟨q0,o,n,c,q1,q2⟩:=j w e;⟨q0,o,n,c,q1.ext z,q2.keep (.of_ext z) (λ_ G _=>G)⟩,trivial⟩
      ⟨.inl rfl,.inr λ_ _ _ j z w e=>let⟨q0,o,n,c,q1,q2⟩:=j w e;⟨q0,o,n,c,q1.grown z (λe=>by injection e with e;omega),q2.keep (.of_grown z λb G e=>by injection e with e;omega) (λ_ G _=>G)⟩,trivial⟩ ?_
     repeat (refine sx ?_ (λad ac=> ?_) ?_;rotate_left;(focus have a2:=(a.out.sv.grown (aJ ac) (λe=>aP (I e))).cell;clear ac;go_simp<;>with_reducible rfl);simp only[a8,a7,a6,aZ,aY])
     refine bR _ _ Qe rfl ⟨_,none,0,0,rfl⟩ rfl (λab ah A aB ai=> ?_) ?_
     ·clear A;have ay:=aD 1 _ en ab g (a.out.pa.ext ah.un) Qc Qc aK;have a4:=O ah.un;clear ah;go_simp;refine ay.mono ?_;intro e aQ aI;rw[hy]at aI;obtain⟨a1,o,n,c,rfl,aW,aX⟩:=aI;exact ai _ _ a1 ⟨_,_,_,rfl⟩ (λal bj bp e=>by injection e with e;simp only[fB,d_,d5,and_true,true_and]at e;obtain⟨rfl,rfl,rfl⟩:=e;exact⟨aW.mono (λb G _=>aR (dz a4.out) G),aX⟩)
     rintro _ ⟨aC,ar,az,rfl⟩;simp only[a8,a7,a6,aZ,aY];refine bg _ _ Qe rfl ⟨_,0,rfl⟩ Qd (λab ac A aB ai=> ?_) ?_
     ·have ao:=(A _ (.head _) Qb) aC ar az rfl;have aS:=(aJ ac).size;clear A ac;go_simp;exact ai _ _ (Z ab _) ⟨_,rfl⟩ (λw e=>by injection e with e;injection e with e;injection e with e;subst e;exact⟨aS,aC,ar,az,aw ab _ _,ao.1.keep (.of_ext (Z ab _)) (λ_ G _=>G)⟩)
     rintro _ ⟨w,rfl⟩;simp only[a8,a7,a6,aZ,aY];intro bi ak A;obtain⟨bo,aO,aE,aN,aM,aL⟩:=A _ (.head _) w rfl;have ao:=(A _ (.tail _ (.head _)) aC ar az rfl).2;clear A;simp only[ae,au];have ak:=aJ ak;have bk:=ak.size;have av:=World.ownsRow.lt a.out.xx.1;have a:=O (a.out.step ao ak);have a5:=O (aL.mono (Q:=λb=>ad.heap.size+1<=b/\some b≠Value.ownBlock (.slice none 0 0)) (λb G _=>⟨by omega,λe=>by have:=(av b e.symm).2;omega⟩));clear ak ao aL V R M K;refine eA GH rfl _ _ rfl (ad.heap.size+1) _ 0 (gI []) rfl a.out.xx.1 w (uA y (.slice aO aE aN)) rfl aM rfl (sI _ _ _ _) Qa Qc Qa ?_;intro al cap' bf aH ax aF;have a:=O (a.out.app (Y:=λaA=>gz aA (ad.heap.size+1) 70 (.slice (some ⟨al,0,none⟩) 1 cap') [(y,.slice aO aE aN)]) ax (λk e=>(av k e).1) (a.out.xx.snoc a5.out aH ax aF) λk af aA bt aV j=>j.grown aV (λk e=>by injection e with e;omega));obtain⟨V,R,M,K⟩:=a.out.cells;clear aH ax aF aM av;go_wp2_with fail;have a:=O (a.out.set Qa 2 (.slice (some ⟨al,0,none⟩) 1 cap'));obtain⟨ap,aq⟩:=a.out.fin (r:=gU f l) (.mk 2 (cO l).t [y] [] []) 2 (J (cO l).t) (some ⟨al,0,none⟩) 1 cap' none 0 0 none 0 0 (by unfold gU;rw[bY af,then_ok,if_neg (by simp[hlp]),if_neg (by simp[hls]),cW heq,then_ok,hy,then_ok]) rfl rfl (λj=>⟨by have:=j.rd.mono (Q:=λb=>an.heap.size<b) (λb G _=>by omega);simpa[St.ex]using this,.nil _ _,.nil _ _⟩);simp only[World.setCells,aG,Nat.reduceAdd]at ap aq;exact bodyPost_ret (v:=.agg #[.int i64 2,.string (J (cO l).t),.slice (some ⟨al,0,none⟩) 1 cap',.slice none 0 0,.slice none 0 0]) (by simp[results,results184,go_sem,ap]) rfl aq
   |false=>
    go_wp2_with (go_at_call 100;refine(a.out.bad heq).mono ?_;unfold bh;rintro e X ⟨rfl,ag⟩);exact⟨rfl,dI (by unfold gU;rw[bY af,then_ok,if_neg (by simp[hlp]),if_neg (by simp[hls]),fE heq,bZ]) ag.out⟩
end
end Go.Proofs.YtddomeddabfinaaGreatDoor
