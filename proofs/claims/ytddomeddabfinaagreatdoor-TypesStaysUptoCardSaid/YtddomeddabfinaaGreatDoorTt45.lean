/- Parts of the proof. -/
import Derived.Test.YtddomeddabfinaaGreatDoorTt00
import Derived.Test.YtddomeddabfinaaGreatDoorTt16
set_option maxRecDepth 100000
set_option maxHeartbeats 8000000
set_option linter.unusedVariables false
set_option linter.unusedSimpArgs false
set_option linter.unusedSectionVars false
namespace Go.Proofs.YtddomeddabfinaaGreatDoor
open Go.Proofs.Tryz
section
theorem kx (d v:UInt8) (y:List UInt8) (h:lB d=some v):cA (92::d::y)=(v,2):=by
 have a: ¬((92:UInt8).toNat<32\/126<(92:UInt8).toNat):=Qc
 simp only[cA];rw[if_neg a,if_neg Qd,h]
theorem yK (c:UInt8) (a:vB c=true) (y:List UInt8):cA (oT c++y)=(c,(oT c).length)/\(∃d r,oT c++y=d::r/\d≠34):=by
 unfold oT;by_cases h1:c=10
 ·subst h1;exact⟨kx 110 10 y Qc,92,_,rfl,by decide⟩
 rw[if_neg h1];by_cases h2:c=9
 ·subst h2;exact⟨kx 116 9 y Qc,92,_,rfl,by decide⟩
 rw[if_neg h2];by_cases h3:c=0
 ·subst h3;exact⟨kx 48 0 y Qc,92,_,rfl,by decide⟩
 rw[if_neg h3];by_cases h4:c=92
 ·subst h4;exact⟨kx 92 92 y Qc,92,_,rfl,by decide⟩
 rw[if_neg h4];by_cases h5:c=39
 ·subst h5;exact⟨kx 39 39 y Qc,92,_,rfl,by decide⟩
 rw[if_neg h5];by_cases h6:c=34
 ·subst h6;exact⟨kx 34 34 y Qc,92,_,rfl,by decide⟩
 rw[if_neg h6];refine⟨?_,c,y,rfl,h6⟩;have h:32<=c.toNat/\c.toNat<=126:=by
  unfold vB at a;simp only[bJ,decide_eq_true_eq,beq_iff_eq]at a;rcases a with((a|a)|a)|a
  ·exact a
  ·exact absurd a h1
  ·exact absurd a h2
  ·exact absurd a h3
 show cA (c::y)=_;simp only[cA];rw[if_neg Qa,if_pos h4];rfl
theorem pY (y:List UInt8): ∀l:List UInt8,l.all vB=true->ku (fq l++34::y)=some (l,(fq l).length+1)
 | [],_=>tS y
 |c::l,h=>by
  simp only[dV,ag]at h;obtain⟨j,d,r,a,o⟩:=yK c h.1 (fq l++34::y);have w:=l8 c;have e:fq (c::l)++34::y=d::r:=by rw[<-a];simp[fq]
  rw[a]at j;rw[e,q8 o (by rw[j];simp only;omega),j,<-a,lK,pY y l h.2];simp only[gL,fq,ac,dT]
theorem DE:io 34=false:=Qc
theorem DS:eG 34=false:=Qc
theorem uJ (l y:List UInt8) (a:l.all vB=true) (h:l.length<=128):iF (f_ l++y)=.ok ((4,l,0),(f_ l).length):=by
 have e:f_ l++y=34::(fq l++34::y):=by simp[f_]
 rw[e];simp only[iF,DE,DS];rw[if_neg Qd,if_neg Qd,if_neg Qc,if_pos trivial];unfold jM;rw[ae,au,pY y l a];simp only;rw[if_neg Qa];simp[f_]
theorem mr {c:UInt8} {l:List UInt8} (h:uB c=false) (a: ¬(c=47/\l.head? =some 47)):cJ false (c::l)=0:=by
 simp only[cJ];rw[if_neg (by simp[h]),if_neg a]
theorem ry {d:Nat} (a:d<10):(UInt8.ofNat (48+d)).toNat=48+d:=by
 rw[fM];omega
theorem mA: ∀(N n:Nat),n<N->(fZ n).all eG=true/\fZ n≠ []/\mb (fZ n)=n/\(n≠0->(fZ n).head? ≠some 48)/\(n<10->(fZ n).length=1)
 |0,n,o=>by omega
 |N+1,n,o=>by
  rw[fZ];by_cases hn:n<10
  ·rw[if_pos hn];have a:=ry hn;refine⟨?_,by simp,?_,?_,λ_=>rfl⟩
   ·simp[eG];omega
   ·simp[mb];omega
   ·intro G j;simp only[List.head?_cons,gV]at j;have:=congrArg UInt8.toNat j;rw[a]at this;have:48+n=48:=this;omega
  ·rw[if_neg hn];obtain⟨A,z,h,w,_⟩:=mA N (n/10) Qa;have a:=ry (Nat.mod_lt n (by omega:10>0));refine⟨?_,by simp,?_,?_,λo=>by omega⟩
   ·rw[iW,A];simp[eG];omega
   ·unfold mb at h⊢;rw[List.foldl_append,h];simp only[List.foldl_cons,List.foldl_nil,a];omega
   ·intro _;have:=w Qa
    cases hc:fZ (n/10)with
    |nil=>exact absurd hc z
    |cons c r=>rw[hc]at this;simpa using this
theorem Bz (n:Nat) (h:1<(fZ n).length):(fZ n).head? ≠some 48:=by
 have a:=mA (n+1) n Qa;by_cases h0:n<10
 ·have:=a.2.2.2.2 h0;omega
 ·exact a.2.2.2.1 Qa
theorem x9 {p:UInt8->Bool} {c:UInt8} {l:List UInt8} (a:p c=true):cm p (c::l)=cm p l+1:=by
 simp only[cm];rw[if_pos a]
theorem AW {l:List UInt8} (a:sY l=true):l=[118,97,114]\/l=[102,117,110,99]\/l=[105,102]\/l=[101,108,115,101]\/l=[119,104,105,108,101]\/l=[114,101,116,117,114,110]:=by
 have:=List.contains_iff_mem.1 a;simpa[GM]using this
theorem uc {c:UInt8} (a:eG c=true):io c=false/\c≠39/\c≠34/\uB c=false/\c≠47:=by
 have key: ∀n:Fin 256,eG (UInt8.ofNat n.val)=true->io (UInt8.ofNat n.val)=false/\UInt8.ofNat n.val≠39/\UInt8.ofNat n.val≠34/\uB (UInt8.ofNat n.val)=false/\UInt8.ofNat n.val≠47:=Qj
 have:=key ⟨c.toNat,c.toNat_lt⟩;rw[fW]at this;exact this a
theorem DD {c:UInt8} (a:io c=true):uB c=false/\c≠47:=by
 have key: ∀n:Fin 256,io (UInt8.ofNat n.val)=true->uB (UInt8.ofNat n.val)=false/\UInt8.ofNat n.val≠47:=Qj
 have:=key ⟨c.toNat,c.toNat_lt⟩;rw[fW]at this;exact this a
theorem qI {l:List UInt8} (a:two.contains l=true):l=[61,61]\/l=[33,61]\/l=[60,61]\/l=[62,61]\/l=[38,38]\/l=[124,124]:=by
 have:=List.contains_iff_mem.1 a;simpa[two]using this
theorem vA {c:UInt8} (a:lR.contains c=true):c=40\/c=41\/c=123\/c=125\/c=91\/c=93\/c=44\/c=59\/c=61\/c=43\/c=45\/c=42\/c=47\/c=37\/c=60\/c=62\/c=33:=by
 have:=List.contains_iff_mem.1 a;simpa[lR]using this
abbrev K3:=Int×List UInt8×Int
def Lx (l:List UInt8) (ks:List K3):Prop:= ∀f a,l.length<f-> ∃us,gT f l a=.ok us/\us.map (λt=>(t.k,t.t,t.v))=ks
theorem Fi:Lx [] []:=λf a _=>⟨[],by cases f<;>rfl,rfl⟩
theorem fT {c:UInt8} {l:List UInt8} {h:List K3} (z:uB c=true) (K:Lx l h):Lx (c::l) h:=λf a j=>by
 cases f with
 |zero=>simp at j
 |succ f=>
  obtain⟨o,G,A⟩:=K (f+1) (a+1) (by simp only[ah]at j;omega);refine⟨o,?_,A⟩;rw[<-G];have w:cJ false (c::l)=cJ false l+1:=by simp[cJ,z]
  simp only[gT,w,ae];rw[show a+(cJ false l+1)=a+1+cJ false l from by omega]
theorem mY {m y:List UInt8} {k v:Int} {t:List UInt8} {a:List K3} (h:iF (m++y)=.ok ((k,t,v),m.length)) (o:m≠ []) (j:cJ false (m++y)=0) (R:Lx y a):Lx (m++y) ((k,t,v)::a):=λf A w=>by
 cases f with
 |zero=>simp at w
 |succ f=>
  have V:0<m.length:=List.length_pos_iff.2 o;obtain⟨G,O,M⟩:=R f (A+m.length) (by simp only[ac]at w;omega);obtain⟨c,r,K⟩: ∃c r,m++y=c::r:=by
   cases m with
   |nil=>exact absurd rfl o
   |cons c r=>exact⟨c,r++y,rfl⟩
  refine⟨⟨k,t,v,(A:Nat)⟩::G,?_,by rw[bF,M]⟩;have z:(m++y).drop m.length=y:=lK;rw[K]at h j z⊢;simp only[gT,j,au,h,bE,z,O]
def Bd (y:List UInt8):Prop:= ∀c,y.head? =some c->fd c=false
theorem FD {c:UInt8} (a:fd c=false):eG c=false/\io c=false:=by
 unfold fd at a;simp only[Bool.or_eq_false_iff]at a;exact⟨a.1.2,a.1.1⟩
theorem pD (p:UInt8->Bool) (y:List UInt8) (a: ∀c,y.head? =some c->p c=false): ∀l:List UInt8,l.all p=true->cm p (l++y)=l.length
 | [],_=>by
  cases y with
  |nil=>rfl
  |cons c r=>simp[cm,a c rfl]
 |c::l,h=>by
  simp only[dV,ag]at h;rw[aH,x9 h.1,pD p y a l h.2];rfl
theorem xf {a y:List UInt8} {j:List K3} (M:a.all fd=true) (z:a.head?.any io=true) (h:sY a=true\/a.length<=14) (K:Bd y) (O:Lx y j):Lx (a++y) ((if sY a then 2 else 1,a,0)::j):=by
 cases a with
 |nil=>cases z
 |cons c r=>
  have w:io c=true:=z;have o:=pD fd y K (c::r) M;obtain⟨G,A⟩:=DD w;refine mY ?_ Qd (mr G (λe=>A e.1)) O;rw[aH]at o⊢;simp only[iF];rw[if_pos w];unfold kh;rw[o,<-aH,List.take_left]
  cases hk:sY (c::r)with
  |true=>simp
  |false=>
   have: ¬14<(c::r).length:=by
    rcases h with h|h
    ·rw[hk]at h;cases h
    ·omega
   rw[if_neg Qd,if_neg this];simp
theorem AO {n:Nat} {y:List UInt8} {h:List K3} (ab:n<=2147483647) (j:Bd y) (V:Lx y h):Lx (fZ n++y) ((3,[],(n:Int))::h):=by
 obtain⟨a,R,O,_,_⟩:=mA (n+1) n Qa;have ac:=mc 9 n Qa;have K:=Bz n;generalize fZ n=l at*
 cases l with
 |nil=>exact absurd rfl R
 |cons c r=>
  have o:=pD eG y (λd M=>(FD (j d M)).1) (c::r) a;simp only[dV,ag]at a;obtain⟨G,I,X,A,w⟩:=uc a.1;refine mY ?_ Qd (mr A (λe=>w e.1)) V;rw[aH]at o⊢;simp only[iF];rw[if_neg (by simp[G]),if_pos a.1];unfold ji;rw[o,<-aH,lK,List.take_left,O,if_neg,if_neg]
  ·rintro(g|⟨g1,g2⟩|g)
   ·omega
   ·exact K g1 g2
   ·omega
  ·cases y with
   |nil=>simp
   |cons d z=>simpa using j d rfl
theorem AN {t y:List UInt8} {a:List K3} (h:t.all vB=true) (j:t.length<=128) (o:Lx y a):Lx (f_ t++y) ((4,t,0)::a):=
 mY (uJ t y h j) (by simp[f_]) (by unfold f_;exact mr Qc (λe=>absurd e.1 Qc)) o
def Gr:List UInt8:=[40,41,123,125,91,93,44,59,43,45,42,37]
theorem eb {c:UInt8} {y:List UInt8} {a:List K3} (O:c∈Gr) (R:Lx y a):Lx (c::y) ((5,[c],0)::a):=by
 have key: ∀d∈Gr,uB d=false/\d≠47/\io d=false/\eG d=false/\d≠39/\d≠34/\lR.contains d=true/\two.all (λs=>s.head? !=some d)=true:=Qj
 obtain⟨K,G,A,z,w,o,j,h⟩:=key c O;refine mY (m:=[c]) ?_ Qd (mr K (λe=>G e.1)) R;show iF (c::y)=_;simp only[iF];rw[if_neg (by simp[A]),if_neg (by simp[z]),if_neg w,if_neg o];unfold ja;rw[if_neg,if_pos (by simpa using j)]
 ·rfl
 ·intro e;have M:=List.contains_iff_mem.1 e;have:=List.all_eq_true.1 h _ M;simp at this
theorem xh {m y:List UInt8} {a:List K3} (h:two.contains m=true\/ ∃c,m=[c]/\lR.contains c=true) (o:Lx y a):Lx (m++32::y) ((5,m,0)::a):=by
 have j:Lx (32::y) a:=fT Qc o;rcases h with h|⟨c,rfl,hc⟩
 ·rcases qI h with rfl|rfl|rfl|rfl|rfl|rfl<;>exact mY rfl Qd rfl j
 ·rcases vA hc with rfl|rfl|rfl|rfl|rfl|rfl|rfl|rfl|rfl|rfl|rfl|rfl|rfl|rfl|rfl|rfl|rfl<;>exact mY rfl Qd rfl j
theorem Dz {y:List UInt8} {a:List K3} (h:y.head? ≠some 61) (j:Lx y a):Lx (33::y) ((5,[33],0)::a):=by
 refine mY (m:=[33]) ?_ Qd rfl j;show iF (33::y)=_;simp only[iF];rw[if_neg Qc,if_neg Qc,if_neg Qc,if_neg Qc];unfold ja;rw[if_neg,if_pos (show((33::y).head?.any λc=>lR.contains c)=true from rfl)]
 ·rfl
 ·intro e;rcases qI e with e|e|e|e|e|e
  ·simp at e
  ·cases y with
   |nil=>simp at e
   |cons d z=>simp at e;exact h (by rw[e];rfl)
  ·simp at e
  ·simp at e
  ·simp at e
  ·simp at e
theorem Dx {l:List UInt8} {h:List K3} (w:Lx l h) (z:l.length<=4000): ∃a,gG l=(a,0,0)/\a.map (λt=>(t.k,t.t,t.v))=h:=by
 obtain⟨a,o,j⟩:=w (l.length+1) 0 Qa;exact⟨a,by unfold gG nV;rw[if_neg Qa,o],j⟩
def kM (c:UInt8):K3:=(5,[c],0)
def fX (b:Bool) (l:List K3):List K3:=if b then kM 40::(l++[kM 41])else l
def iK:List (List K3)->List K3
 | []=>[]
 |x::r=>x++r.flatMap λy=>kM 44::y
def wG (k:Int) (op nm tx:List UInt8) (v:Int) (ps:List Int) (ss:List (List K3)):List K3:=
 if k=1 then[(3,[],v)]
 else if k=2 then[(4,tx,0)]
 else if k=3 then[(1,nm,0)]
 else if k=4 then(1,nm,0)::kM 91::(ss.headD []++[kM 93])
 else if k=5 then(1,nm,0)::kM 40::(iK ss++[kM 41])
 else if k=6 then(5,op,0)::fX (decide (ps.headD 0<7)) (ss.headD [])
 else if k=7 then fX (decide (ps.headD 0<im op)) (ss.headD [])++(5,op,0)::fX (decide (ps.tail.headD 0<=im op)) (ss.tail.headD [])
 else[]
mutual
def fI:Ex->List K3| .mk k op nm tx v a=>wG k op nm tx v (a.map Ex.prec) (js a)
def js:List Ex->List (List K3)| []=>[]|x::r=>fI x::js r
end
theorem s_: ∀l,js l=l.map fI
 | []=>rfl
 |x::r=>by rw[js,s_ r];rfl
theorem co {c:UInt8} {y:List UInt8} (h:fd c=false):Bd (c::y):=λd a=>by
 injection a with a;subst a;exact h
theorem gO {nm y:List UInt8} {h:List K3} (a:dY nm=true) (j:Bd y) (o:Lx y h):Lx (nm++y) ((1,nm,0)::h):=by
 unfold dY at a;simp only[ag,decide_eq_true_eq,jK]at a;obtain⟨⟨⟨G,A⟩,z⟩,w⟩:=a;have:=xf w G (.inr A) j o;rwa [z]at this
def Hd (l:List UInt8):Prop:=l≠ []/\l.head? ≠some 61
theorem kZ {l y:List UInt8} (j:Hd l):Hd (l++y):=by
 obtain⟨h,a⟩:=j
 cases l with
 |nil=>exact absurd rfl h
 |cons c r=>exact⟨by simp,by simpa using a⟩
theorem AG {nm:List UInt8} (a:dY nm=true):Hd nm:=by
 unfold dY at a;simp only[ag]at a;obtain⟨⟨⟨h,_⟩,_⟩,_⟩:=a
 cases nm with
 |nil=>cases h
 |cons c r=>exact⟨by simp,λe=>by injection e with e;subst e;exact absurd (show io 61=true from h) Qc⟩
theorem C8 {op:List UInt8} (a:0<im op):two.contains op=true\/ ∃c,op=[c]/\lR.contains c=true:=by
 rcases tU op with rfl|rfl|rfl|rfl|rfl|rfl|rfl|rfl|rfl|rfl|rfl|rfl|rfl|hn<;>first
  |exact .inl rfl
  |exact .inr ⟨_,rfl,rfl⟩
  |skip
 exact absurd a (by rw[hn.2];decide)
theorem E8 {b:Bool} {s:List UInt8} (a:Hd s):Hd (mx b s):=by
 cases b with
 |true=>exact⟨by simp[mx],by simp[mx]⟩
 |false=>exact a
def EA (s:List UInt8) (t:List K3):Prop:=Hd s/\ ∀y ks,Bd y->Lx y ks->Lx (s++y) (t++ks)
theorem vO {b:Bool} {s:List UInt8} {t:List K3} (a:EA s t):EA (mx b s) (fX b t):=by
 refine⟨E8 a.1,λy h o j=> ?_⟩
 cases b with
 |true=>
  show Lx ((40::(s++[41]))++y) ((kM 40::(t++[kM 41]))++h);rw[aH,aH,aq,aq];exact eb Qc (a.2 _ _ (co Qc) (eb Qc j))
 |false=>exact a.2 y h o j
theorem Dy: ∀(l:List Ex),(∀x,x∈l->EA (b_ x) (fI x))-> ∀y a,Bd y->Lx y a->Lx (dS [44,32] (eX l)++y) (iK (js l)++a):=by
 have M: ∀(l:List Ex),(∀x,x∈l->EA (b_ x) (fI x))-> ∀y a,Bd y->Lx y a->Lx ((eX l).flatMap (λh=>[44,32]++h)++y) ((js l).flatMap (λh=>kM 44::h)++a)/\Bd ((eX l).flatMap (λh=>[44,32]++h)++y):=by
  intro l
  induction l with
  |nil=>exact λ_ y a o j=>⟨j,o⟩
  |cons x r ih=>
   intro w y a o j;obtain⟨K,G⟩:=ih (λh z=>w h (cM _ z)) y a o j;have A:=(w x (dr ..)).2 _ _ G K;simp only[eX,js,bx,aq,aH,aP];exact⟨eb Qc (fT Qc A),co Qc⟩
 intro l w y a o j
 cases l with
 |nil=>exact j
 |cons x r=>
  obtain⟨K,G⟩:=M r (λh z=>w h (cM _ z)) y a o j;have A:=(w x (dr ..)).2 _ _ G K;simp only[eX,js,dS,iK,aq];exact A
theorem xi: ∀(m:Nat) (x:Ex),x.wt<=m->x.ok=true->EA (b_ x) (fI x)
 |0,x,hm,_=>absurd hm (by have:=x.wt_eq;omega)
 |m+1,.mk k op nm tx v a,hm,h=>by
  have R:=(Ex.mk k op nm tx v a).wt_eq;simp only[Ex.op,Ex.nm,Ex.tx,Ex.args]at R;rw[Ex.ok,ag]at h;obtain⟨j,O⟩:=h;rw[kY]at O;have K: ∀y,y∈a->EA (b_ y) (fI y):=λy w=>xi m y (by have:=dG w;omega) (List.all_eq_true.1 O y w);rw[b_,fI];by_cases k1:k=1
  ·subst k1;rw[if_pos rfl]at j;simp only[ag,decide_eq_true_eq]at j;have V:((v.toNat:Nat):Int)=v:=Qa
   obtain⟨M,I,_⟩:=mA (v.toNat+1) v.toNat Qa;refine⟨⟨by simpa[j_]using I,?_⟩,λy A w z=> ?_⟩
   ·show(fZ v.toNat).head? ≠some 61
    cases hl:fZ v.toNat with
    |nil=>simp
    |cons c r=>
     rw[hl]at M;simp only[dV,ag]at M;exact λe=>by injection e with e;subst e;exact absurd M.1 Qc
   ·have:=AO (n:=v.toNat) Qa w z;rw[V]at this;exact this
  rw[if_neg k1]at j;by_cases k2:k=2
  ·subst k2;rw[if_pos rfl]at j;simp only[ag,qA,decide_eq_true_eq]at j;exact⟨⟨by simp[j_,f_],by simp[j_,f_]⟩,λy A w z=>AN j.1.1.1 j.1.1.2 z⟩
  rw[if_neg k2]at j;by_cases k3:k=3
  ·subst k3;rw[if_pos rfl]at j;simp only[ag]at j;exact⟨AG j.1.1,λy A w z=>gO j.1.1 w z⟩
  rw[if_neg k3]at j;by_cases k4:k=4
  ·subst k4;rw[if_pos rfl]at j;simp only[ag,beq_iff_eq]at j;obtain⟨o,rfl⟩:=List.length_eq_one_iff.1 j.2;have G:=K o Qd;refine⟨kZ (kZ (kZ (AG j.1.1))),λy A w z=> ?_⟩;show Lx (nm++[91]++b_ o++[93]++y) ((1,nm,0)::kM 91::(fI o++[kM 93])++A);simp only[aq,aH,aP];exact gO j.1.1 (co Qc) (eb Qc (G.2 _ _ (co Qc) (eb Qc z)))
  rw[if_neg k4]at j;by_cases k5:k=5
  ·subst k5;rw[if_pos rfl]at j;simp only[ag]at j;refine⟨kZ (kZ (kZ (AG j.1.1))),λy A w z=> ?_⟩;show Lx (nm++[40]++dS [44,32] (eX a)++[41]++y) ((1,nm,0)::kM 40::(iK (js a)++[kM 41])++A);simp only[aq,aH,aP];exact gO j.1.1 (co Qc) (eb Qc (Dy a K _ _ (co Qc) (eb Qc z)))
  rw[if_neg k5]at j;by_cases k6:k=6
  ·subst k6;rw[if_pos rfl]at j;simp only[ag,bJ,beq_iff_eq]at j;obtain⟨o,rfl⟩:=List.length_eq_one_iff.1 j.2;have G:=vO (b:=decide (o.prec<7)) (K o Qd);rcases j.1.1 with rfl|rfl
   ·refine⟨⟨by simp[j_],by simp[j_]⟩,λy A w z=> ?_⟩;show Lx ([45]++mx (decide (o.prec<7)) (b_ o)++y) (kM 45::fX (decide (o.prec<7)) (fI o)++A);simp only[aq,aH,aP];exact eb Qc (G.2 _ _ w z)
   ·refine⟨⟨by simp[j_],by simp[j_]⟩,λy A w z=> ?_⟩;show Lx ([33]++mx (decide (o.prec<7)) (b_ o)++y) (kM 33::fX (decide (o.prec<7)) (fI o)++A);simp only[aq,aH,aP];exact Dz (kZ G.1).2 (G.2 _ _ w z)
  rw[if_neg k6]at j;by_cases k7:k=7
  ·subst k7;rw[if_pos rfl]at j;simp only[ag,beq_iff_eq,decide_eq_true_eq]at j;obtain⟨o,u,rfl⟩: ∃y o,a=[y,o]:=by
    match a,j.2 with
    | [y,o],_=>exact⟨y,o,rfl⟩
   have G:=vO (b:=decide (o.prec<im op)) (K o Qd);have X:=vO (b:=decide (u.prec<=im op)) (K u Qd);refine⟨kZ (kZ G.1),λy A w z=> ?_⟩;show Lx (mx (decide (o.prec<im op)) (b_ o)++([32]++op++[32])++mx (decide (u.prec<=im op)) (b_ u)++y) (fX (decide (o.prec<im op)) (fI o)++(5,op,0)::fX (decide (u.prec<=im op)) (fI u)++A);simp only[aq,aH,aP];exact G.2 _ _ (co Qc) (fT Qc (xh (C8 j.1.1) (X.2 _ _ w z)))
  ·rw[if_neg k7]at j
   cases j
theorem DB {x:Ex} (a:x.ok=true):EA (b_ x) (fI x):=xi _ x (ak _) a
end
section
def kW (l:List UInt8):K3:=(2,l,0)
def fJ (ts:List (List K3)):List K3:=kM 123::(ts.flatten++[kM 125])
def nS:List UInt8:=[118,97,114]
def ED:List UInt8:=[105,102]
def fF:List UInt8:=[101,108,115,101]
def rT:List UInt8:=[119,104,105,108,101]
def kL:List UInt8:=[114,101,116,117,114,110]
def zC (k:Int) (nm:List UInt8) (es bs ls:List (List K3)) (mO:Bool):List K3:=
 if k=1 then(if es=[]then[kW nS,(1,nm,0),kM 59]else kW nS::(1,nm,0)::kM 61::(es.headD []++[kM 59]))
 else if k=2 then(1,nm,0)::kM 61::(es.headD []++[kM 59])
 else if k=3 then(1,nm,0)::kM 91::(es.headD []++kM 93::kM 61::(es.tail.headD []++[kM 59]))
 else if k=4 then kW ED::(es.headD []++(fJ bs++(if mO then kW fF::ls.headD []else if ls=[]then[]else kW fF::fJ ls)))
 else if k=5 then kW rT::(es.headD []++fJ bs)
 else if k=6 then(if es=[]then[kW kL,kM 59]else kW kL::(es.headD []++[kM 59]))
 else if k=7 then es.headD []++[kM 59]
 else[]
mutual
def iX:St->List K3| .mk k nm e b l=>zC k nm (js e) (c_ b) (c_ l) (fR l)
def c_:List St->List (List K3)| []=>[]|x::r=>iX x::c_ r
end
def B9 (s:List UInt8) (t:List K3):Prop:= ∀y ks,Lx y ks->Lx (s++y) (t++ks)
theorem sw {y:List UInt8} {a:List K3} (h:Lx y a): ∀i,Lx (jt i++y) a
 |0=>h
 |i+1=>fT Qc (sw h i)
theorem lV {w y:List UInt8} {h:List K3} (a:sY w=true) (o:Bd y) (z:Lx y h):Lx (w++y) (kW w::h):=by
 have j:w.all fd=true/\w.head?.any io=true:=by rcases AW a with rfl|rfl|rfl|rfl|rfl|rfl<;>decide
 have:=xf j.1 j.2 (.inl a) o z;rwa [a]at this
theorem AQ {y:List UInt8} {a:List K3} (h:Lx y a):Lx (32::61::32::y) (kM 61::a):=fT Qc (xh (m:=[61]) (.inr ⟨61,rfl,by decide⟩) h)
theorem xg (i:Nat): ∀(l:List St),(∀x,x∈l->B9 (dD x (i+1)) (iX x))-> ∀y a,Lx y a->Lx ((bK l (i+1)).flatMap (λt=>jt (i+1)++(t++[10]))++y) ((c_ l).flatten++a)
 | [],_,y,a,h=>h
 |x::r,hx,y,a,h=>by
  have w:=xg i r (λj o=>hx j (cM _ o)) y a h;simp only[bK,c_,bx,List.flatten_cons,aq,aH,aP];exact sw (hx x (dr ..) _ _ (fT (c:=10) Qc w)) (i+1)
theorem vP {i:Nat} {l:List St} (h: ∀x,x∈l->B9 (dD x (i+1)) (iX x)):B9 (fu i (bK l (i+1))) (fJ (c_ l)):=λy a j=>by
 show Lx (([123,10]++(bK l (i+1)).flatMap (λt=>jt (i+1)++t++[10])++(jt i++[125]))++y) ((kM 123::((c_ l).flatten++[kM 125]))++a);simp only[aq,aH,aP];exact eb (c:=123) Qc (fT (c:=10) Qc (xg i l h _ _ (sw (eb (c:=125) Qc j) i)))
theorem sA: ∀(m:Nat) (x:St),x.wt<=m->x.ok=true-> ∀i,B9 (dD x i) (iX x)
 |0,x,hm,_=>absurd hm (by have:=x.wt_eq;omega)
 |m+1,.mk k nm es bd z,hm,h=>by
  have ad:=(St.mk k nm es bd z).wt_eq;simp only[St.nm,St.ex,St.body,St.els]at ad;rw[St.ok,ag,ag,ag]at h;obtain⟨⟨j,ac⟩,ab,I⟩:=h;rw[kY]at ac;rw[ib]at ab I;have A: ∀y,y∈es->EA (b_ y) (fI y):=λy M=>DB (List.all_eq_true.1 ac y M);have af: ∀y,y∈bd-> ∀i,B9 (dD y i) (iX y):=λy M=>sA m y (by have:=bO M;omega) (List.all_eq_true.1 ab y M);have O: ∀y,y∈z-> ∀i,B9 (dD y i) (iX y):=λy M=>sA m y (by have:=bO M;omega) (List.all_eq_true.1 I y M);intro i y G K;have X:=vP (i:=i) (l:=bd) (λo R=>af o R (i+1));have V:=vP (i:=i) (l:=z) (λo R=>O o R (i+1));rw[dD,iX];by_cases k1:k=1
  ·subst k1;rw[if_pos rfl]at j;simp only[ag,decide_eq_true_eq]at j
   match es,A,j with
   | [],A,j=>
    show Lx (oR++nm++[59]++y) ([kW nS,(1,nm,0),kM 59]++G);simp only[oR,aq,aH,aP];exact lV (w:=nS) Qc (co Qc) (fT Qc (gO j.1.1.1 (co Qc) (eb Qc K)))
   | [o],A,j=>
    show Lx (oR++nm++zN++b_ o++[59]++y) (kW nS::(1,nm,0)::kM 61::(fI o++[kM 59])++G);simp only[oR,zN,aq,aH,aP];exact lV (w:=nS) Qc (co Qc) (fT Qc (gO j.1.1.1 (co Qc) (AQ ((A o Qd).2 _ _ (co Qc) (eb Qc K)))))
   |a::b::r,A,j=>exact absurd j.1.1.2 Qd
  rw[if_neg k1]at j;by_cases k2:k=2
  ·subst k2;rw[if_pos rfl]at j;simp only[ag,beq_iff_eq]at j;obtain⟨o,rfl⟩:=List.length_eq_one_iff.1 j.1.1.2;show Lx (nm++zN++b_ o++[59]++y) ((1,nm,0)::kM 61::(fI o++[kM 59])++G);simp only[zN,aq,aH,aP];exact gO j.1.1.1 (co Qc) (AQ ((A o Qd).2 _ _ (co Qc) (eb Qc K)))
  rw[if_neg k2]at j;by_cases k3:k=3
  ·subst k3;rw[if_pos rfl]at j;simp only[ag,beq_iff_eq]at j;obtain⟨o,u,rfl⟩: ∃y o,es=[y,o]:=by
    match es,j.1.1.2 with
    | [y,o],_=>exact⟨y,o,rfl⟩
   show Lx (nm++[91]++b_ o++[93]++(zN++b_ u++[59])++y) ((1,nm,0)::kM 91::(fI o++kM 93::kM 61::(fI u++[kM 59]))++G);simp only[zN,aq,aH,aP];exact gO j.1.1.1 (co Qc) (eb Qc ((A o Qd).2 _ _ (co Qc) (eb Qc (AQ ((A u Qd).2 _ _ (co Qc) (eb Qc K))))))
  rw[if_neg k3]at j;by_cases k4:k=4
  ·subst k4;rw[if_pos rfl]at j;simp only[ag,beq_iff_eq]at j;obtain⟨o,rfl⟩:=List.length_eq_one_iff.1 j.2;show Lx (Ei++b_ o++[32]++fu i (bK bd (i+1))++(if fR z then ju++(bK z i).headD []else if bK z (i+1)=[]then[]else ju++fu i (bK z (i+1)))++y)
    (kW ED::(fI o++(fJ (c_ bd)++(if fR z then kW fF::(c_ z).headD []else if c_ z=[]then[]else kW fF::fJ (c_ z))))++G)
   have ae:Lx ((if fR z then ju++(bK z i).headD []else if bK z (i+1)=[]then[]else ju++fu i (bK z (i+1)))++y) ((if fR z then kW fF::(c_ z).headD []else if c_ z=[]then[]else kW fF::fJ (c_ z))++G):=by
    match z,O,V with
    | [],_,_=>exact K
    |u::r,O,V=>
     cases hc:fR (u::r)with
     |true=>
      show Lx (ju++dD u i++y) (kW fF::iX u++G);simp only[ju,aq,aH,aP];exact fT Qc (lV (w:=fF) Qc (co Qc) (fT Qc (O u Qd i _ _ K)))
     |false=>
      show Lx (ju++fu i (bK (u::r) (i+1))++y) (kW fF::fJ (c_ (u::r))++G);simp only[ju,aq,aH,aP];exact fT Qc (lV (w:=fF) Qc (co Qc) (fT Qc (V _ _ K)))
   simp only[Ei,aq,aH,aP];exact lV (w:=ED) Qc (co Qc) (fT Qc ((A o Qd).2 _ _ (co Qc) (fT Qc (X _ _ ae))))
  rw[if_neg k4]at j;by_cases k5:k=5
  ·subst k5;rw[if_pos rfl]at j;simp only[ag,beq_iff_eq]at j;obtain⟨o,rfl⟩:=List.length_eq_one_iff.1 j.1.2;show Lx (r6++b_ o++[32]++fu i (bK bd (i+1))++y) (kW rT::(fI o++fJ (c_ bd))++G);simp only[r6,aq,aH,aP];exact lV (w:=rT) Qc (co Qc) (fT Qc ((A o Qd).2 _ _ (co Qc) (fT Qc (X _ _ K))))
  rw[if_neg k5]at j;by_cases k6:k=6
  ·subst k6;rw[if_pos rfl]at j;simp only[ag,decide_eq_true_eq]at j
   match es,A,j with
   | [],A,j=>exact lV (w:=kL) Qc (co Qc) (eb Qc K)
   | [o],A,j=>
    show Lx (mm++[32]++b_ o++[59]++y) (kW kL::(fI o++[kM 59])++G);simp only[aq,aH,aP];exact lV (w:=kL) Qc (co Qc) (fT Qc ((A o Qd).2 _ _ (co Qc) (eb Qc K)))
   |a::b::r,A,j=>exact absurd j.1.1.2 Qd
  rw[if_neg k6]at j;by_cases k7:k=7
  ·subst k7;rw[if_pos rfl]at j;simp only[ag,beq_iff_eq]at j;obtain⟨o,rfl⟩:=List.length_eq_one_iff.1 j.1.1.1.2;show Lx (b_ o++[59]++y) (fI o++[kM 59]++G);simp only[aq,aH,aP];exact(A o Qd).2 _ _ (co Qc) (eb Qc K)
  ·rw[if_neg k7]at j
   cases j
theorem DA {x:St} (a:x.ok=true) (i:Nat):B9 (dD x i) (iX x):=sA _ x (ak _) a i
end
section
def ww:List UInt8:=[102,117,110,99]
def jS:List (List UInt8)->List K3
 | []=>[]
 |x::r=>(1,x,0)::r.flatMap λy=>[kM 44,(1,y,0)]
def zc (v:Vr):List K3:=kW nS::(1,v.nm,0)::((if 0<v.sz then[kM 91,(3,[],v.sz),kM 93]else[])++[kM 59])
def s9 (f:Fc):List K3:=kW ww::(1,f.nm,0)::kM 40::(jS f.ps++kM 41::fJ (c_ f.body))
def GU (p:Pg):List K3:=p.vs.flatMap zc++p.fs.flatMap s9
theorem AP: ∀(l:List (List UInt8)),l.all dY=true-> ∀y a,Bd y->Lx y a->Lx (dS [44,32] l++y) (jS l++a):=by
 have G: ∀(l:List (List UInt8)),l.all dY=true-> ∀y a,Bd y->Lx y a->Lx (l.flatMap (λo=>[44,32]++o)++y) (l.flatMap (λo=>[kM 44,(1,o,0)])++a)/\Bd (l.flatMap (λo=>[44,32]++o)++y):=by
  intro l
  induction l with
  |nil=>exact λ_ y a w j=>⟨j,w⟩
  |cons x r ih=>
   intro h y a w j;simp only[dV,ag]at h;obtain⟨A,z⟩:=ih h.2 y a w j;simp only[bx,aq,aH,aP];exact⟨eb (c:=44) Qc (fT (c:=32) Qc (gO h.1 z A)),co Qc⟩
 intro l h y a w j
 cases l with
 |nil=>exact j
 |cons x r=>
  simp only[dV,ag]at h;obtain⟨A,z⟩:=G r h.2 y a w j;simp only[dS,jS,aq,aH];exact gO h.1 z A
theorem Hp {v:Vr} (a:pd v=true):B9 (kS v) (zc v):=λy o A=>by
 unfold pd at a;simp only[ag,decide_eq_true_eq]at a;have j:Lx (59::10::y) (kM 59::o):=eb Qc (fT Qc A);unfold kS zc;by_cases hs:0<v.sz
 ·rw[if_pos hs,if_pos hs];have z:((v.sz.toNat:Nat):Int)=v.sz:=Qa
  have h:=AO (n:=v.sz.toNat) (y:=93::59::10::y) Qa (co Qc) (eb (c:=93) Qc j);rw[z]at h;simp only[oR,aq,aH,aP];exact lV (w:=nS) Qc (co Qc) (fT (c:=32) Qc (gO a.1.1 (co Qc) (eb (c:=91) Qc h)))
 ·rw[if_neg hs,if_neg hs];simp only[oR,aq,aH,aP];exact lV (w:=nS) Qc (co Qc) (fT (c:=32) Qc (gO a.1.1 (co Qc) j))
theorem Hr {f:Fc} (a:oa f=true):B9 (kT f) (s9 f):=λy A o=>by
 have h:=kr a;rw[ib]at h;unfold oa at a;simp only[ag]at a;have z:=vP (i:=0) (l:=f.body) (λx j=>DA (List.all_eq_true.1 h x j) 1);unfold kT s9;simp only[tm,aq,aH,aP]
 exact lV (w:=ww) Qc (co Qc) (fT (c:=32) Qc (gO a.1.1.1 (co Qc) (eb (c:=40) Qc
  (AP f.ps a.1.2 _ _ (co Qc) (eb (c:=41) Qc (fT (c:=32) Qc (z _ _ (fT (c:=10) Qc o))))))))
theorem sy {α:Type} (s:α->List UInt8) (t:α->List K3): ∀(l:List α),(∀x,x∈l->B9 (s x) (t x))->B9 (l.flatMap s) (l.flatMap t)
 | [],_,y,ks,h=>h
 |x::r,hx,y,ks,h=>by
  simp only[bx,aq];exact hx x (dr ..) _ _ (sy s t r (λa j=>hx a (cM _ j)) y ks h)
theorem Hq {p:Pg} (j:p.vs.all pd=true) (o:p.fs.all oa=true):Lx (iZ p) (GU p):=by
 have w:=sy kT s9 p.fs (λx a=>Hr (List.all_eq_true.1 o x a)) [] [] Fi;have h:=sy kS zc p.vs (λx a=>Hp (List.all_eq_true.1 j x a)) _ _ w;simp only[cT]at h;exact h
theorem zu {p:Pg} (a:gx p=true): ∃h,gG (iZ p)=(h,0,0)/\h.map (λt=>(t.k,t.t,t.v))=GU p:=by
 have j:=tJ a;unfold gx at a;simp only[ag]at a;exact Dx (Hq a.1.1.1.1 a.1.1.1.2) j
def Is (l:List bT) (ks:List K3):Prop:=l.map (λt=>(t.k,t.t,t.v))=ks
theorem cK {l:List bT} {k v:Int} {t:List UInt8} {j:List K3} (o:Is l ((k,t,v)::j)):(cO l).k=k/\(cO l).t=t/\(cO l).v=v/\Is l.tail j:=by
 cases l with
 |nil=>cases o
 |cons a r=>
  injection o with z w;injection z with G h;injection h with h A;exact⟨G,h,A,w⟩
theorem du {l:List bT} {v:Int} {t:List UInt8} {a:List K3} (o:Is l ((5,t,v)::a)) (s:List UInt8):bX s l=(t==s):=by
 obtain⟨j,h,_,_⟩:=cK o;unfold bX;rw[j,h];rfl
def qF (p:Int) (ks:List K3):Prop:= ∃t v r,ks=(5,t,v)::r/\t≠ [91]/\t≠ [40]/\im t<=p
theorem mn {c:UInt8} {a:List K3} {p:Int} (z:c∈ [41,93,44,59,123]) (h:0<=p):qF p (kM c::a):=by
 have key: ∀d∈ [41,93,44,59,123],([d]:List UInt8)≠ [91]/\([d]:List UInt8)≠ [40]/\im [d]=0:=Qj
 obtain⟨w,o,j⟩:=key c z;exact⟨[c],0,a,rfl,w,o,by rw[j];exact h⟩
theorem qF.mono {p q:Int} {a:List K3} (w:qF p a) (z:p<=q):qF q a:=by
 obtain⟨t,v,r,o,j,h,A⟩:=w;exact⟨t,v,r,o,j,h,by omega⟩
def FW (t:List K3) (x:Ex):Prop:= ∀l ks F p,Is l (t++ks)->qF p ks->4*t.length+4<=F-> ∃r,Is r ks/\cF F l=.ok (x,r)
def GP (x:Ex):Prop:= ∀n l ks F,Is l (fI x++ks)->n<=x.prec->qF x.prec ks->4*(fI x).length+8<=F-> ∃r c,Is r ks/\1<=c/\c<=(fI x).length/\bS F n l=gB (F-c) n x r
theorem qZ {F:Nat} {n p:Int} {x:Ex} {r:List bT} {a:List K3} (j:Is r a) (h:qF p a) (z:p<n) (G:1<=F):gB F n x r=.ok (x,r):=by
 obtain⟨t,v,q,rfl,_,_,A⟩:=h;obtain⟨K,o,_,_⟩:=cK j;obtain⟨F,rfl⟩: ∃w,F=w+1:=⟨F-1,by omega⟩
 rw[gB,if_neg (by rw[o];omega)]
theorem nY {x:Ex} (K:GP x) {n q:Int} {l:List bT} {a:List K3} {F:Nat} (z:Is l (fI x++a)) (w:n<=x.prec) (h:qF q a) (o:q<n) (A:4*(fI x).length+8<=F): ∃r,Is r a/\bS F n l=.ok (x,r):=by
 obtain⟨r,c,j,O,M,G⟩:=K n l a F z w (h.mono Qa) A;exact⟨r,j,by rw[G];exact qZ j h o Qa⟩
theorem Af {x:Ex} (A:FW (fI x) x) (j:1<=(fI x).length):GP x:=λn l a F o K h M=>by
 obtain⟨F,rfl⟩: ∃G,F=G+1:=⟨F-1,by omega⟩
 obtain⟨r,z,w⟩:=A l a F _ o h Qa;exact⟨r,1,z,ak _,j,by rw[bS,w];rfl⟩
theorem nZ {x:Ex} (K:GP x) (A:1<=x.prec):FW (fX true (fI x)) x:=λl h F p a ad af=>by
 have a:Is l (kM 40::(fI x++(kM 41::h))):=by
  have:fX true (fI x)++h=kM 40::(fI x++(kM 41::h)):=by simp[fX]
  rw[<-this];exact a
 have ae:(fX true (fI x)).length=(fI x).length+2:=by simp[fX]
 obtain⟨F,rfl⟩: ∃X,F=X+1:=⟨F-1,by omega⟩
 obtain⟨j,ac,_,z⟩:=cK a;obtain⟨r,o,G⟩:=nY K (n:=1) (q:=0) (F:=F) z A (mn Qd (gS _)) Qa Qa;obtain⟨ab,I,_,w⟩:=cK o;refine⟨r.tail,w,?_⟩;have V:bX sV l=false:=by rw[du a];rfl
 have R:bX ux l=false:=by rw[du a];rfl
 have O:bX kV l=true:=by rw[du a];rfl
 have M:bX je r=true:=by rw[du o];rfl
 rw[cF,if_neg (by rw[j];decide),if_neg (by rw[j];decide),if_neg (by rw[j];decide),V,R,if_neg Qd];unfold bw;rw[O,if_pos rfl];show((bS F 1 l.tail).then λx r=>(bw je r).then λ_ r=> .ok (x,r))=_;rw[G];show((bw je r).then λ_ r=> .ok (x,r))=_;unfold bw;rw[M,if_pos rfl];rfl
theorem tF {t:List K3} {x:Ex} (z:FW t x) {n p:Int} {l:List bT} {a:List K3} {F:Nat} (j:Is l (t++a)) (h:qF p a) (G:4*t.length+5<=F): ∃r,Is r a/\bS F n l=gB (F-1) n x r:=by
 obtain⟨F,rfl⟩: ∃A,F=A+1:=⟨F-1,by omega⟩
 obtain⟨r,w,o⟩:=z l a F p j h Qa;exact⟨r,w,by rw[bS,o];rfl⟩
theorem dX {l:List bT} {c:UInt8} {a:List K3} (h:Is l (kM c::a)):bw [c] l=.ok ((),l.tail)/\Is l.tail a:=by
 have e:bX [c] l=true:=by rw[du h];simp
 exact⟨by unfold bw;rw[e,if_pos rfl],(cK h).2.2.2⟩
theorem wY {k:Int} {t u v:List UInt8} (a:((k==5||k==2)&&(t==u||t==v))=false):((k==5||k==2)&&t==u)=false/\((k==5||k==2)&&t==v)=false:=by
 revert a
 cases (k==5||k==2)<;>cases (t==u)<;>cases (t==v)<;>simp
structure Rd (x:Ex):Prop where
 rx:GP x
 rp:x.k≠7->FW (fI x) x
 rh: ∃c r,fI x=c::r/\((c.1==5||c.1==2)&&(c.2.1==[41]||c.2.1==[59]))=false
 rq:1<=x.prec
theorem rG: ∀(A:List Ex),A≠ []->(∀x,x∈A->Rd x)-> ∀o l j F,Is l (iK (js A)++kM 41::j)->4*(iK (js A)).length+12<=F-> ∃r,Is r j/\fV F o l=.ok (o++A,r)
 | [],h,_,_,_,_,_,_,_=>absurd rfl h
 | [x],_,hx,o,l,j,F,a,w=>by
  obtain⟨F,rfl⟩: ∃M,F=M+1:=⟨F-1,by omega⟩
  have a:Is l (fI x++kM 41::j):=by simpa[js,iK]using a
  have w:4*(fI x).length+12<=F+1:=by simpa[js,iK]using w
  obtain⟨r,z,K⟩:=nY (hx x Qd).rx (n:=1) (q:=0) (F:=F) a (hx x Qd).rq (mn Qd (gS _)) Qa Qa;obtain⟨O,G⟩:=dX z;have e:bX je r=true:=by rw[du z];rfl
  refine⟨r.tail,G,?_⟩;rw[fV,K];show(if bX je r then _ else _)=_;rw[e,if_pos rfl]
 |x::y::r,_,hx,o,l,j,F,a,w=>by
  obtain⟨F,rfl⟩: ∃M,F=M+1:=⟨F-1,by omega⟩
  have ad:iK (js (x::y::r))=fI x++kM 44::iK (js (y::r)):=by simp[js,iK]
  rw[ad]at a w;rw[aq,aH]at a;simp only[ac,ah]at w;obtain⟨q,z,K⟩:=nY (hx x Qd).rx (n:=1) (q:=0) (F:=F) a (hx x Qd).rq (mn Qd (gS _)) Qa Qa;obtain⟨O,G⟩:=dX z;have e:bX je q=false:=by rw[du z];rfl
  obtain⟨V,ab,I⟩:=rG (y::r) Qd (λR X=>hx R (cM _ X)) (o++[x]) q.tail j F G Qa;refine⟨V,ab,?_⟩;rw[fV,K];show(if bX je q then _ else(bw uY q).then _)=_;rw[e,if_neg Qd,show bw uY q=.ok ((),q.tail)from O];show fV F (o++[x]) q.tail=_;rw[I,aq];rfl
theorem Ai: ∀(m:Nat) (x:Ex),x.wt<=m->x.ok=true->Rd x
 |0,x,hm,_=>absurd hm (by have:=x.wt_eq;omega)
 |m+1,.mk k op nm tx v a,hm,av=>by
  have I:=(Ex.mk k op nm tx v a).wt_eq;simp only[Ex.op,Ex.nm,Ex.tx,Ex.args]at I;rw[Ex.ok,ag]at av;obtain⟨j,ao⟩:=av;rw[kY]at ao;have al: ∀y,y∈a->Rd y:=λy aI=>Ai m y (by have:=dG aI;omega) (List.all_eq_true.1 ao y aI);have aj: ∀(x:Ex),FW (fI x) x->(∃c r,fI x=c::r/\((c.1==5||c.1==2)&&(c.2.1==[41]||c.2.1==[59]))=false)->1<=x.prec->Rd x:=λx j ao aR=>⟨Af j (by obtain⟨c,r,e,_⟩:=ao;rw[e];simp),λ_=>j,ao,aR⟩
  by_cases k1:k=1
  ·subst k1;rw[if_pos rfl]at j;simp only[ag,beq_iff_eq]at j;obtain⟨⟨_,⟨rfl,rfl⟩,rfl⟩,ha⟩:=j;obtain rfl:=ax ha;refine aj _ (λl G F p o R A=> ?_) ⟨_,_,rfl,rfl⟩ (by simp[Ex.prec,Ex.k]);obtain⟨F,rfl⟩: ∃K,F=K+1:=⟨F-1,by omega⟩
   obtain⟨w,M,af,z⟩:=cK (show Is l ((3,[],v)::G)from o);exact⟨l.tail,z,by rw[cF,if_pos w,af]⟩
  rw[if_neg k1]at j;by_cases k2:k=2
  ·subst k2;rw[if_pos rfl]at j;simp only[ag,beq_iff_eq]at j;obtain⟨⟨_,⟨rfl,rfl⟩,rfl⟩,ha⟩:=j;obtain rfl:=ax ha;refine aj _ (λl G F p o R A=> ?_) ⟨_,_,rfl,rfl⟩ (by simp[Ex.prec,Ex.k]);obtain⟨F,rfl⟩: ∃K,F=K+1:=⟨F-1,by omega⟩
   obtain⟨w,M,af,z⟩:=cK (show Is l ((4,tx,0)::G)from o);exact⟨l.tail,z,by rw[cF,if_neg (by rw[w];decide),if_pos w,M]⟩
  rw[if_neg k2]at j;by_cases k3:k=3
  ·subst k3;rw[if_pos rfl]at j;simp only[ag,beq_iff_eq]at j;obtain⟨⟨_,⟨rfl,rfl⟩,rfl⟩,ha⟩:=j;obtain rfl:=ax ha;refine aj _ (λl G F p o R A=> ?_) ⟨_,_,rfl,rfl⟩ (by simp[Ex.prec,Ex.k]);have o:Is l ((1,nm,0)::G):=o;have A:8<=F:=by simpa[fI,wG]using A
   obtain⟨F,rfl⟩: ∃K,F=K+1+1:=⟨F-2,by omega⟩
   obtain⟨w,M,af,z⟩:=cK o;obtain⟨t,aV,r,rfl,ay,aw,_⟩:=R;have ae:bX mV l.tail=false:=by rw[du z];exact Ql.2 ay
   have aG:bX kV l.tail=false:=by rw[du z];exact Ql.2 aw
   exact⟨l.tail,z,by rw[cF,if_neg (by rw[w];decide),if_neg (by rw[w];decide),if_pos w,M,cG,ae,aG,if_neg Qd,if_neg Qd]⟩
  rw[if_neg k3]at j;by_cases k4:k=4
  ·subst k4;rw[if_pos rfl]at j;simp only[ag,beq_iff_eq]at j;obtain⟨⟨_,⟨rfl,rfl⟩,rfl⟩,ha⟩:=j;obtain⟨h,rfl⟩:=List.length_eq_one_iff.1 ha;have O:=al h Qd;have X:fI (.mk 4 [] nm [] 0 [h])=(1,nm,0)::kM 91::(fI h++[kM 93]):=rfl;refine aj _ (λl G F p o R A=> ?_) ⟨_,_,X,rfl⟩ (by simp[Ex.prec,Ex.k]);rw[X]at o A;simp only[aH,aq,aP,ah,ac,ai]at o A;obtain⟨F,rfl⟩: ∃K,F=K+1+1:=⟨F-2,by omega⟩
   obtain⟨w,M,af,z⟩:=cK o;have ae:bX mV l.tail=true:=by rw[du z];rfl
   obtain⟨_,_,_,J⟩:=cK z;obtain⟨r,V,ab⟩:=nY O.rx (n:=1) (q:=0) (F:=F) J O.rq (mn Qd (gS _)) Qa Qa;obtain⟨aK,aD⟩:=dX V;refine⟨r.tail,aD,?_⟩;rw[cF,if_neg (by rw[w];decide),if_neg (by rw[w];decide),if_pos w,M,cG,ae,if_pos rfl,ab];show(bw qz r).then _=_;rw[show bw qz r=.ok ((),r.tail)from aK];rfl
  rw[if_neg k4]at j;by_cases k5:k=5
  ·subst k5;rw[if_pos rfl]at j;simp only[ag,beq_iff_eq]at j;obtain⟨_,⟨rfl,rfl⟩,rfl⟩:=j;have X:fI (.mk 5 [] nm [] 0 a)=(1,nm,0)::kM 40::(iK (js a)++[kM 41]):=rfl;refine aj _ (λl G F p o R A=> ?_) ⟨_,_,X,rfl⟩ (by simp[Ex.prec,Ex.k]);rw[X]at o A;simp only[aH,aq,aP,ah,ac,ai]at o A;obtain⟨F,rfl⟩: ∃K,F=K+1+1+1:=⟨F-3,by omega⟩
   obtain⟨w,M,af,z⟩:=cK o;have ae:bX mV l.tail=false:=by rw[du z];rfl
   have aG:bX kV l.tail=true:=by rw[du z];rfl
   obtain⟨_,_,_,J⟩:=cK z;have aS: ∃r,Is r G/\fS (F+1) l.tail.tail=.ok (a,r):=by
    cases a with
    |nil=>
     have ap:Is l.tail.tail (kM 41::G):=J;have aF:bX je l.tail.tail=true:=by rw[du ap];rfl
     exact⟨_,(cK ap).2.2.2,by rw[fS,aF,if_pos rfl]⟩
    |cons x r=>
     have aF:bX je l.tail.tail=false:=by
      obtain⟨c,q,aE,aB⟩:=(al x Qd).rh;have ap:Is l.tail.tail (c::(q++(r.flatMap λy=>kM 44::fI y)++kM 41::G)):=by
       have:iK (js (x::r))++kM 41::G=c::(q++(r.flatMap λy=>kM 44::fI y)++kM 41::G):=by
        simp only[js,iK,aE,s_,List.flatMap_map,aH,aq]
       rw[<-this];exact J
      obtain⟨aZ,aY,aX⟩:=c;obtain⟨aU,aT,_,_⟩:=cK ap;unfold bX;rw[aU,aT];exact(wY aB).1
     obtain⟨ad,V,ab⟩:=rG (x::r) Qd al [] _ G F J Qa;exact⟨ad,V,by rw[fS,aF,if_neg Qd,ab];rfl⟩
   obtain⟨r,V,ab⟩:=aS;refine⟨r,V,?_⟩;rw[cF,if_neg (by rw[w];decide),if_neg (by rw[w];decide),if_pos w,M,cG,ae,if_neg Qd,aG,if_pos rfl,ab];rfl
  rw[if_neg k5]at j
  -- what stands in parentheses where its level is too low
  have aM: ∀(h:Ex) (b:Bool),Rd h->(b=false->h.k≠7)->FW (fX b (fI h)) h:=λh b O aC=>by
   cases b with
   |true=>exact nZ O.rx O.rq
   |false=>exact O.rp (aC rfl)
  by_cases k6:k=6
  ·subst k6;rw[if_pos rfl]at j;simp only[ag,bJ,beq_iff_eq]at j;obtain⟨⟨an,⟨rfl,rfl⟩,rfl⟩,ha⟩:=j;obtain⟨h,rfl⟩:=List.length_eq_one_iff.1 ha;have O:=al h Qd
   have aN:=aM h (decide (h.prec<7)) O (λaC aQ=>by
    have: ¬h.prec<7:=of_decide_eq_false aC;have aW:=AU h.op;unfold Ex.prec at this;rw[if_pos aQ]at this
    omega)
   have X:fI (.mk 6 op [] [] 0 [h])=(5,op,0)::fX (decide (h.prec<7)) (fI h):=rfl;generalize decide (h.prec<7)=b at*;refine aj _ (λl G F p o R A=> ?_) ⟨_,_,X,by rcases an with rfl|rfl<;>rfl⟩ (by simp[Ex.prec,Ex.k]);rw[X]at o A;simp only[aH,ah]at o A;obtain⟨F,rfl⟩: ∃K,F=K+1:=⟨F-1,by omega⟩
   obtain⟨w,M,af,z⟩:=cK o;obtain⟨r,V,ab⟩:=aN l.tail G F p z R Qa;have ae:(bX sV l||bX ux l)=true:=by rw[du o,du o];rcases an with rfl|rfl<;>rfl
   refine⟨r,V,?_⟩;rw[cF,if_neg (by rw[w];decide),if_neg (by rw[w];decide),if_neg (by rw[w];decide),ae,if_pos rfl,ab,M];rfl
  rw[if_neg k6]at j;by_cases k7:k=7
  ·subst k7;rw[if_pos rfl]at j;simp only[ag,beq_iff_eq,decide_eq_true_eq]at j;obtain⟨⟨an,⟨rfl,rfl⟩,rfl⟩,ha⟩:=j;obtain⟨h,u,rfl⟩: ∃y h,a=[y,h]:=by
    match a,ha with
    | [y,h],_=>exact⟨y,h,rfl⟩
   have O:=al h Qd;have aA:=al u Qd;have X:fI (.mk 7 op [] [] 0 [h,u])=fX (decide (h.prec<im op)) (fI h)++(5,op,0)::fX (decide (u.prec<=im op)) (fI u):=rfl;have aL:(Ex.mk 7 op [] [] 0 [h,u]).prec=im op:=rfl;have au:op≠ [91]/\op≠ [40]:=⟨λe=>by subst e;exact absurd an Qc,λe=>by subst e;exact absurd an Qc⟩
   refine⟨λn l G F o aJ R A=> ?_,λav=>absurd rfl av,?_,by rw[aL];omega⟩
   ·rw[aL]at aJ R;rw[X]at o A⊢;simp only[aq,aH,ac,ah]at o A⊢;have ay: ∃r c,Is r ((5,op,0)::(fX (decide (u.prec<=im op)) (fI u)++G))/\1<=c/\c<=(fX (decide (h.prec<im op)) (fI h)).length/\bS F n l=gB (F-c) n h r:=by
     by_cases I:h.prec<im op
     ·rw[decide_eq_true I]at o A⊢;obtain⟨r,V,ab⟩:=tF (n:=n) (F:=F) (nZ O.rx O.rq) o (p:=im op) ⟨op,0,_,rfl,au.1,au.2,gS _⟩ Qa;exact⟨r,1,V,ak _,by simp[fX],ab⟩
     ·rw[decide_eq_false I]at o A⊢;exact O.rx n l _ F o Qa ⟨op,0,_,rfl,au.1,au.2,by omega⟩ (by have e:(fX false (fI h)).length=(fI h).length:=rfl;omega)
    obtain⟨r,c,V,ab,aK,aD⟩:=ay;obtain⟨K,aO⟩: ∃K,F-c=K+1:=⟨F-c-1,by omega⟩
    obtain⟨w,M,_,z⟩:=cK V;have aw: ∃ad,Is ad G/\bS K (im op+1) r.tail=.ok (u,ad):=by
     by_cases I:u.prec<=im op
     ·rw[decide_eq_true I]at z A;obtain⟨ad,ar,az⟩:=tF (n:=im op+1) (F:=K) (nZ aA.rx aA.rq) z R Qa;exact⟨ad,ar,by rw[az];exact qZ ar R Qa Qa⟩
     ·rw[decide_eq_false I]at z A;exact nY aA.rx z Qa R Qa (by have e:(fX false (fI u)).length=(fI u).length:=rfl;omega)
    obtain⟨ad,ar,az⟩:=aw;refine⟨ad,c+1,ar,by omega,by omega,?_⟩;rw[aD,aO,gB,if_pos ⟨w,by rw[M];exact aJ⟩,M,az,show F-(c+1)=K from by omega];rfl
   ·rw[X];by_cases I:h.prec<im op
    ·rw[decide_eq_true I];exact⟨_,_,rfl,rfl⟩
    ·rw[decide_eq_false I];obtain⟨c,q,aE,aB⟩:=O.rh;exact⟨c,q++(5,op,0)::fX (decide (u.prec<=im op)) (fI u),by rw[show fX false (fI h)=fI h from rfl,aE];rfl,aB⟩
  ·rw[if_neg k7]at j
   cases j
theorem EY {x:Ex} (a:x.ok=true):Rd x:=Ai _ x (ak _) a
theorem lX {l:List bT} {v:Int} {t:List UInt8} {a:List K3} (o:Is l ((2,t,v)::a)) (s:List UInt8):bX s l=(t==s):=by
 obtain⟨j,h,_,_⟩:=cK o;unfold bX;rw[j,h];rfl
theorem ip {l:List bT} {v:Int} {t:List UInt8} {a:List K3} (j:Is l ((1,t,v)::a)) (s:List UInt8):bX s l=false:=by
 obtain⟨h,o,_,_⟩:=cK j;unfold bX;rw[h];rfl
theorem jk {l:List bT} {v:Int} {t:List UInt8} {a:List K3} (w:Is l ((1,t,v)::a)):iH l=.ok (t,l.tail)/\Is l.tail a:=by
 obtain⟨o,j,_,h⟩:=cK w;exact⟨by unfold iH;rw[if_pos o,j],h⟩
def qr (ks:List K3):Prop:= ∀l,Is l ks->bX fF l=false
def Ia (ks:List K3):Prop:= ∃c r,ks=c::r/\((c.1==5||c.1==2)&&(c.2.1==[125]||c.2.1==fF))=false
theorem Bf {t a:List K3} (z:Ia t):qr (t++a):=λl h=>by
 obtain⟨⟨k,s,v⟩,r,rfl,j⟩:=z;obtain⟨w,o,_,_⟩:=cK h;unfold bX;rw[w,o];exact(wY j).2
theorem DK {t a:List K3} (z:Ia t) {l:List bT} (h:Is l (t++a)):bX Ek l=false:=by
 obtain⟨⟨k,s,v⟩,r,rfl,j⟩:=z;obtain⟨w,o,_,_⟩:=cK h;unfold bX;rw[w,o];exact(wY j).1
theorem Rd.no59 {a:Ex} (A:Rd a) {l:List bT} {j:List K3} (h:Is l (fI a++j)):bX mu l=false:=by
 obtain⟨⟨k,s,v⟩,r,e,o⟩:=A.rh;rw[e]at h;obtain⟨z,w,_,_⟩:=cK h;unfold bX;rw[z,w];exact(wY o).2
structure FK (x:St):Prop where
 rs: ∀l ks F,Is l (iX x++ks)->qr ks->4*(iX x).length+8<=F-> ∃r,Is r ks/\dg F l=.ok (x,r)
 ri:x.k=4-> ∃t,iX x=kW ED::t/\ ∀l ks F,Is l (t++ks)->qr ks->4*t.length+8<=F-> ∃r,Is r ks/\nP F l=.ok (x,r)
 rh:Ia (iX x)
theorem rB: ∀(h:List St),(∀x,x∈h->FK x)-> ∀o l a F,Is l ((c_ h).flatten++kM 125::a)->4*(c_ h).flatten.length+12<=F-> ∃r,Is r a/\d7 F o l=.ok (o++h,r)
 | [],_,o,l,a,F,j,hF=>by
  obtain⟨F,rfl⟩: ∃z,F=z+1:=⟨F-1,by omega⟩
  have j:Is l (kM 125::a):=j;have e:bX Ek l=true:=by rw[du j];rfl
  exact⟨l.tail,(cK j).2.2.2,by rw[d7,e,if_pos rfl,cT]⟩
 |x::h,hx,o,l,a,F,j,hF=>by
  obtain⟨F,rfl⟩: ∃z,F=z+1:=⟨F-1,by omega⟩
  have w:=hx x Qd;have ab:(c_ (x::h)).flatten=iX x++(c_ h).flatten:=by simp[c_]
  rw[ab]at j hF;rw[aq]at j;rw[ac]at hF;have ad:1<=(iX x).length:=by obtain⟨c,r,e,_⟩:=w.rh;rw[e];simp
  have M:qr ((c_ h).flatten++kM 125::a):=by
   cases h with
   |nil=>exact λl O=>by rw[du (show Is l (kM 125::a)from O)];rfl
   |cons y r=>
    have:(c_ (y::r)).flatten++kM 125::a=iX y++((c_ r).flatten++kM 125::a):=by simp[c_]
    rw[this];exact Bf (hx y Qd).rh
  obtain⟨r,V,R⟩:=w.rs l _ F j M Qa;obtain⟨G,I,X⟩:=rB h (λA K=>hx A (cM _ K)) (o++[x]) r a F V Qa;refine⟨G,I,?_⟩;rw[d7,DK w.rh j,if_neg Qd,R];show d7 F (o++[x]) r=_;rw[X,aq];rfl
theorem nG {a:List St} (A: ∀x,x∈a->FK x) {l:List bT} {h:List K3} {F:Nat} (j:Is l (fJ (c_ a)++h)) (o:4*(fJ (c_ a)).length+8<=F): ∃r,Is r h/\dn F l=.ok (a,r):=by
 obtain⟨F,rfl⟩: ∃M,F=M+1:=⟨F-1,by omega⟩
 have j:Is l (kM 123::((c_ a).flatten++kM 125::h)):=by
  have:fJ (c_ a)++h=kM 123::((c_ a).flatten++kM 125::h):=by simp[fJ]
  rw[<-this];exact j
 have o:4*((c_ a).flatten.length+2)+8<=F+1:=by simpa[fJ]using o
 obtain⟨z,w⟩:=dX j;obtain⟨r,K,G⟩:=rB a A [] l.tail h F w Qa;refine⟨r,K,?_⟩;rw[dn,show bw FQ l=.ok ((),l.tail)from z];exact G
theorem lW {l:List bT} {j:List K3} {a:List UInt8} (h:Is l (kW a::j)):bX Cc l=(a==Cc)/\bX pJ l=(a==pJ)/\bX lz l=(a==lz)/\bX np l=(a==np)/\Is l.tail j:=
 ⟨lX h _,lX h _,lX h _,lX h _,(cK h).2.2.2⟩
theorem sh: ∀(m:Nat) (x:St),x.wt<=m->x.ok=true->FK x
 |0,x,hm,_=>absurd hm (by have:=x.wt_eq;omega)
 |m+1,.mk k nm es bd G,hm,X=>by
  have a6:=(St.mk k nm es bd G).wt_eq;simp only[St.nm,St.ex,St.body,St.els]at a6;rw[St.ok,ag,ag,ag]at X;obtain⟨⟨z,aY⟩,aX,aW⟩:=X;rw[kY]at aY;rw[ib]at aX aW;have ak: ∀y,y∈es->Rd y:=λy az=>EY (List.all_eq_true.1 aY y az);have aV: ∀y,y∈bd->FK y:=λy az=>sh m y (by have:=bO az;omega) (List.all_eq_true.1 aX y az);have aK: ∀y,y∈G->FK y:=λy az=>sh m y (by have:=bO az;omega) (List.all_eq_true.1 aW y az)
  -- an expression behind which a mark follows
  have ad: ∀(h:Ex),h∈es-> ∀(c:UInt8) l w F,c∈ [41,93,44,59,123]->Is l (fI h++kM c::w)->4*(fI h).length+8<=F-> ∃r,Is r (kM c::w)/\bS F 1 l=.ok (h,r):=λh aS c l w F aA j o=>
   nY (ak h aS).rx (n:=1) (q:=0) j (ak h aS).rq (mn aA (gS _)) Qa o
  by_cases k1:k=1
  ·subst k1;rw[if_pos rfl]at z;simp only[ag,decide_eq_true_eq,beq_iff_eq]at z;obtain⟨⟨⟨aT,K⟩,av⟩,ar⟩:=z;obtain rfl:=ax av;obtain rfl:=ax ar
   match es,ak,K,ad with
   | [],ak,K,ad=>
    have A:iX (.mk 1 nm [] [] [])=[kW nS,(1,nm,0),kM 59]:=rfl;refine⟨λl w F j ap o=> ?_,λX=>absurd X (by decide: ¬(1:Int)=4),⟨_,_,A,rfl⟩⟩;rw[A]at j o;simp only[aH,aP,ah,ai]at j o;obtain⟨F,rfl⟩: ∃V,F=V+1:=⟨F-1,by omega⟩
    obtain⟨ae,J,aB,_,O⟩:=lW j;obtain⟨au,ab⟩:=jk O;obtain⟨aj,af⟩:=dX ab;have al:bX uX l.tail.tail=false:=by rw[du ab];rfl
    refine⟨_,af,?_⟩;rw[dg,ae,J,aB,if_neg Qc,if_neg Qc,if_pos Qc,au];show((if bX uX l.tail.tail then _ else _:PR (List Ex))).then _=_;rw[al,if_neg Qd];show(bw mu l.tail.tail).then _=_;rw[show bw mu l.tail.tail=.ok ((),l.tail.tail.tail)from aj];rfl
   | [h],ak,K,ad=>
    have A:iX (.mk 1 nm [h] [] [])=kW nS::(1,nm,0)::kM 61::(fI h++[kM 59]):=rfl;refine⟨λl w F j ap o=> ?_,λX=>absurd X (by decide: ¬(1:Int)=4),⟨_,_,A,rfl⟩⟩;rw[A]at j o;simp only[aH,aq,aP,ac,ah,ai]at j o;obtain⟨F,rfl⟩: ∃V,F=V+1:=⟨F-1,by omega⟩
    obtain⟨ae,J,aB,_,O⟩:=lW j;obtain⟨au,ab⟩:=jk O;obtain⟨_,aG⟩:=dX ab;have al:bX uX l.tail.tail=true:=by rw[du ab];rfl
    obtain⟨r,M,I⟩:=ad h Qd 59 _ _ F Qc aG Qa;obtain⟨aj,af⟩:=dX M;refine⟨_,af,?_⟩;rw[dg,ae,J,aB,if_neg Qc,if_neg Qc,if_pos Qc,au];show((if bX uX l.tail.tail then _ else _:PR (List Ex))).then _=_;rw[al,if_pos rfl,I];show(bw mu r).then _=_;rw[show bw mu r=.ok ((),r.tail)from aj];rfl
   |a::b::r,ak,K,ad=>exact absurd K Qd
  rw[if_neg k1]at z;by_cases k2:k=2
  ·subst k2;rw[if_pos rfl]at z;simp only[ag,beq_iff_eq]at z;obtain⟨⟨⟨aT,K⟩,av⟩,ar⟩:=z;obtain rfl:=ax av;obtain rfl:=ax ar;obtain⟨h,rfl⟩:=List.length_eq_one_iff.1 K;have A:iX (.mk 2 nm [h] [] [])=(1,nm,0)::kM 61::(fI h++[kM 59]):=rfl;refine⟨λl w F j ap o=> ?_,λX=>absurd X (by decide: ¬(2:Int)=4),⟨_,_,A,rfl⟩⟩;rw[A]at j o;simp only[aH,aq,aP,ac,ah,ai]at j o;obtain⟨F,rfl⟩: ∃V,F=V+1:=⟨F-1,by omega⟩
   obtain⟨au,ab⟩:=jk j;obtain⟨a2,aG⟩:=dX ab;have al:bX kV l.tail=false:=by rw[du ab];rfl
   have aO:bX mV l.tail=false:=by rw[du ab];rfl
   obtain⟨r,M,I⟩:=ad h Qd 59 _ _ F Qc aG Qa;obtain⟨aj,af⟩:=dX M;refine⟨_,af,?_⟩;rw[dg,ip j,ip j,ip j,ip j,if_neg Qd,if_neg Qd,if_neg Qd,if_neg Qd,au];show((if bX kV l.tail then _ else if bX mV l.tail then _ else _:PR St)).then _=_;rw[al,aO,if_neg Qd,if_neg Qd,show bw uX l.tail=.ok ((),l.tail.tail)from a2];show((bS F 1 l.tail.tail).then _:PR St).then _=_;rw[I];show(bw mu r).then _=_;rw[show bw mu r=.ok ((),r.tail)from aj];rfl
  rw[if_neg k2]at z;by_cases k3:k=3
  ·subst k3;rw[if_pos rfl]at z;simp only[ag,beq_iff_eq]at z;obtain⟨⟨⟨aT,K⟩,av⟩,ar⟩:=z;obtain rfl:=ax av;obtain rfl:=ax ar;obtain⟨h,u,rfl⟩: ∃y h,es=[y,h]:=by
    match es,K with
    | [y,h],_=>exact⟨y,h,rfl⟩
   have A:iX (.mk 3 nm [h,u] [] [])=(1,nm,0)::kM 91::(fI h++kM 93::kM 61::(fI u++[kM 59])):=rfl;refine⟨λl w F j ap o=> ?_,λX=>absurd X (by decide: ¬(3:Int)=4),⟨_,_,A,rfl⟩⟩;rw[A]at j o;simp only[aH,aq,aP,ac,ah,ai]at j o;obtain⟨F,rfl⟩: ∃V,F=V+1:=⟨F-1,by omega⟩
   obtain⟨au,ab⟩:=jk j;obtain⟨_,aG⟩:=dX ab;have al:bX kV l.tail=false:=by rw[du ab];rfl
   have aO:bX mV l.tail=true:=by rw[du ab];rfl
   obtain⟨r,M,I⟩:=ad h Qd 93 _ _ F Qc aG Qa;obtain⟨bi,bh⟩:=dX M;obtain⟨bg,bf⟩:=dX bh;obtain⟨q,R,ao⟩:=ad u Qd 59 _ _ F Qc bf Qa;obtain⟨aj,af⟩:=dX R;refine⟨_,af,?_⟩;rw[dg,ip j,ip j,ip j,ip j,if_neg Qd,if_neg Qd,if_neg Qd,if_neg Qd,au];show((if bX kV l.tail then _ else if bX mV l.tail then _ else _:PR St)).then _=_;rw[al,aO,if_neg Qd,if_pos rfl,I];show((bw qz r).then _:PR St).then _=_;rw[show bw qz r=.ok ((),r.tail)from bi];show((bw uX r.tail).then _:PR St).then _=_;rw[show bw uX r.tail=.ok ((),r.tail.tail)from bg];show((bS F 1 r.tail.tail).then _:PR St).then _=_;rw[ao];show(bw mu q).then _=_;rw[show bw mu q=.ok ((),q.tail)from aj];rfl
  rw[if_neg k3]at z;by_cases k4:k=4
  ·subst k4;rw[if_pos rfl]at z;simp only[ag,beq_iff_eq]at z;obtain⟨rfl,K⟩:=z;obtain⟨h,rfl⟩:=List.length_eq_one_iff.1 K;have A:iX (.mk 4 [] [h] bd G)=kW ED::(fI h++(fJ (c_ bd)++(if fR G then kW fF::(c_ G).headD []else if c_ G=[]then[]else kW fF::fJ (c_ G)))):=rfl;have key: ∀l w F,Is l ((fI h++(fJ (c_ bd)++(if fR G then kW fF::(c_ G).headD []else if c_ G=[]then[]else kW fF::fJ (c_ G))))++w)->qr w->
     4*(fI h++(fJ (c_ bd)++(if fR G then kW fF::(c_ G).headD []else if c_ G=[]then[]else kW fF::fJ (c_ G)))).length+8<=F-> ∃r,Is r w/\nP F l=.ok (.mk 4 [] [h] bd G,r):=λl w F j ap o=>by
    simp only[aq,ac]at j o;have bm:(fJ (c_ bd)).length=(c_ bd).flatten.length+2:=by simp[fJ]
    have bl:1<=(fI h).length:=by obtain⟨c,r,e,_⟩:=(ak h Qd).rh;rw[e];simp
    obtain⟨F,rfl⟩: ∃V,F=V+1:=⟨F-1,by omega⟩
    have aU:Is l (fI h++kM 123::((c_ bd).flatten++kM 125::((if fR G then kW fF::(c_ G).headD []else if c_ G=[]then[]else kW fF::fJ (c_ G))++w))):=by
     simpa[fJ]using j
    obtain⟨r,M,I⟩:=ad h Qd 123 _ _ F Qc aU Qa;have M:Is r (fJ (c_ bd)++((if fR G then kW fF::(c_ G).headD []else if c_ G=[]then[]else kW fF::fJ (c_ G))++w)):=by
     simpa[fJ]using M
    obtain⟨q,R,ao⟩:=nG aV (F:=F) M Qa;have bb: ∃r,Is r w/\(if bX qQ q then(if bX Cc q.tail then(nP F q.tail.tail).then λs r=> .ok (.mk 4 [] [h] bd [s],r)else(dn F q.tail).then λc r=> .ok (.mk 4 [] [h] bd c,r))else .ok (.mk 4 [] [h] bd [],q):PR St)=.ok (.mk 4 [] [h] bd G,r):=by
     clear M I ao j aU
     match G,aK,R,o with
     | [],aK,R,o=>exact⟨q,R,by rw[show bX qQ q=false from ap q R,if_neg Qd]⟩
     |u::t,aK,R,o=>
      cases aA:fR (u::t)with
      |true=>
       rw[aA,if_pos rfl]at R o;unfold fR at aA;simp only[ag,beq_iff_eq]at aA;obtain⟨ba,a9⟩:=aA;obtain rfl:t=[]:=by simpa using ba
       have a8:u.k=4:=by simpa using a9
       obtain⟨aL,aR,a3⟩:=(aK u Qd).ri a8;have R:Is q (kW fF::kW ED::(aL++w)):=by
        have:(kW fF::(c_ [u]).headD [])++w=kW fF::kW ED::(aL++w):=by simp[c_,aR]
        rw[<-this];exact R
       have o:4*aL.length+8<=F:=by
        have:(kW fF::(c_ [u]).headD []).length=aL.length+2:=by simp[c_,aR]
        omega
       have ae:bX qQ q=true:=by rw[lX R];rfl
       have ao:=(cK R).2.2.2;have J:bX Cc q.tail=true:=by rw[lX ao];rfl
       obtain⟨aI,aN,aM⟩:=a3 q.tail.tail w F (cK ao).2.2.2 ap o;exact⟨aI,aN,by rw[ae,J,if_pos rfl,if_pos rfl,aM];rfl⟩
      |false=>
       have a7: ¬c_ (u::t)=[]:=by simp[c_]
       rw[aA,if_neg Qd,if_neg a7]at R o;have R:Is q (kW fF::(fJ (c_ (u::t))++w)):=R;simp only[ah]at o;have ae:bX qQ q=true:=by rw[lX R];rfl
       have ao:=(cK R).2.2.2;have a5:Is q.tail (kM 123::((c_ (u::t)).flatten++kM 125::w)):=by simpa[fJ]using ao
       have J:bX Cc q.tail=false:=by rw[du a5];rfl
       obtain⟨aI,aN,aM⟩:=nG aK (F:=F) ao Qa;exact⟨aI,aN,by rw[ae,J,if_pos rfl,if_neg Qd,aM];rfl⟩
    obtain⟨aI,be,bc⟩:=bb;refine⟨aI,be,?_⟩;rw[nP,I];show(dn F r).then _=_;rw[ao];exact bc
   refine⟨λl w F j ap o=> ?_,λ_=>⟨_,A,key⟩,⟨_,_,A,rfl⟩⟩;rw[A]at j o;rw[ah]at o;obtain⟨F,rfl⟩: ∃V,F=V+1:=⟨F-1,by omega⟩
   obtain⟨ae,_,_,_,O⟩:=lW j;obtain⟨r,M,I⟩:=key l.tail w F O ap Qa;exact⟨r,M,by rw[dg,ae,if_pos Qc,I]⟩
  rw[if_neg k4]at z;by_cases k5:k=5
  ·subst k5;rw[if_pos rfl]at z;simp only[ag,beq_iff_eq]at z;obtain⟨⟨rfl,K⟩,ar⟩:=z;obtain rfl:=ax ar;obtain⟨h,rfl⟩:=List.length_eq_one_iff.1 K;have A:iX (.mk 5 [] [h] bd [])=kW rT::(fI h++fJ (c_ bd)):=rfl;refine⟨λl w F j ap o=> ?_,λX=>absurd X (by decide: ¬(5:Int)=4),⟨_,_,A,rfl⟩⟩;rw[A]at j o;simp only[aH,aq,ac,ah]at j o;obtain⟨F,rfl⟩: ∃V,F=V+1:=⟨F-1,by omega⟩
   obtain⟨ae,J,_,_,O⟩:=lW j;have O:Is l.tail (fI h++kM 123::((c_ bd).flatten++kM 125::w)):=by simpa[fJ]using O
   obtain⟨r,M,I⟩:=ad h Qd 123 _ _ F Qc O Qa;have M:Is r (fJ (c_ bd)++w):=by simpa[fJ]using M
   obtain⟨q,R,ao⟩:=nG aV (F:=F) M Qa;refine⟨q,R,?_⟩;rw[dg,ae,J,if_neg Qc,if_pos Qc,I];show(dn F r).then _=_;rw[ao];rfl
  rw[if_neg k5]at z;by_cases k6:k=6
  ·subst k6;rw[if_pos rfl]at z;simp only[ag,decide_eq_true_eq,beq_iff_eq]at z;obtain⟨⟨⟨rfl,K⟩,av⟩,ar⟩:=z;obtain rfl:=ax av;obtain rfl:=ax ar
   match es,ak,K,ad with
   | [],ak,K,ad=>
    have A:iX (.mk 6 [] [] [] [])=[kW kL,kM 59]:=rfl;refine⟨λl w F j ap o=> ?_,λX=>absurd X (by decide: ¬(6:Int)=4),⟨_,_,A,rfl⟩⟩;rw[A]at j o;simp only[aH,aP,ah,ai]at j o;obtain⟨F,rfl⟩: ∃V,F=V+1:=⟨F-1,by omega⟩
    obtain⟨ae,J,aB,aQ,O⟩:=lW j;obtain⟨aj,af⟩:=dX O;have al:bX mu l.tail=true:=by rw[du O];rfl
    refine⟨_,af,?_⟩;rw[dg,ae,J,aB,aQ,if_neg Qc,if_neg Qc,if_neg Qc,if_pos Qc,al,if_pos rfl];show(bw mu l.tail).then _=_;rw[show bw mu l.tail=.ok ((),l.tail.tail)from aj];rfl
   | [h],ak,K,ad=>
    have A:iX (.mk 6 [] [h] [] [])=kW kL::(fI h++[kM 59]):=rfl;refine⟨λl w F j ap o=> ?_,λX=>absurd X (by decide: ¬(6:Int)=4),⟨_,_,A,rfl⟩⟩;rw[A]at j o;simp only[aH,aq,aP,ac,ah,ai]at j o;obtain⟨F,rfl⟩: ∃V,F=V+1:=⟨F-1,by omega⟩
    obtain⟨ae,J,aB,aQ,O⟩:=lW j;have al:bX mu l.tail=false:=(ak h Qd).no59 O;obtain⟨r,M,I⟩:=ad h Qd 59 _ _ F Qc O Qa;obtain⟨aj,af⟩:=dX M;refine⟨_,af,?_⟩;rw[dg,ae,J,aB,aQ,if_neg Qc,if_neg Qc,if_neg Qc,if_pos Qc,al,if_neg Qd,I];show(bw mu r).then _=_;rw[show bw mu r=.ok ((),r.tail)from aj];rfl
   |a::b::r,ak,K,ad=>exact absurd K Qd
  rw[if_neg k6]at z;by_cases k7:k=7
  ·subst k7;rw[if_pos rfl]at z;simp only[ag,beq_iff_eq]at z;obtain⟨⟨⟨⟨rfl,K⟩,aJ⟩,av⟩,ar⟩:=z;obtain rfl:=ax av;obtain rfl:=ax ar;obtain⟨h,rfl⟩:=List.length_eq_one_iff.1 K;have aJ:h.k=5:=by simpa using aJ
   obtain⟨a1,aF,aw,aE,aD,ay⟩:=h;have aJ:a1=5:=aJ;subst aJ;have aZ:fI (.mk 5 aF aw aE aD ay)=(1,aw,0)::kM 40::(iK (js ay)++[kM 41]):=rfl;have A:iX (.mk 7 [] [.mk 5 aF aw aE aD ay] [] [])=fI (.mk 5 aF aw aE aD ay)++[kM 59]:=rfl;refine⟨λl w F j ap o=> ?_,λX=>absurd X (by decide: ¬(7:Int)=4),⟨_,_,by rw[A,aZ];rfl,rfl⟩⟩;rw[A]at j o;simp only[aq,aH,aP,ac,ah,ai]at j o;obtain⟨r,M,I⟩:=(ak (.mk 5 aF aw aE aD ay) Qd).rp (by decide: ¬(5:Int)=7) l (kM 59::w) F 0 j (mn Qd (gS _)) Qa;obtain⟨F,rfl⟩: ∃V,F=V+1:=⟨F-1,by omega⟩
   have aC:Is l ((1,aw,0)::kM 40::(iK (js ay)++kM 41::kM 59::w)):=by
    have:fI (.mk 5 aF aw aE aD ay)++kM 59::w=(1,aw,0)::kM 40::(iK (js ay)++kM 41::kM 59::w):=by rw[aZ];simp
    rw[<-this];exact j
   obtain⟨O,a4,bk,bj⟩:=cK aC;obtain⟨au,ab⟩:=jk aC;have al:bX kV l.tail=true:=by rw[du ab];rfl
   rw[cF,if_neg (by rw[O];decide),if_neg (by rw[O];decide),if_pos O,a4]at I;obtain⟨aj,af⟩:=dX M;refine⟨_,af,?_⟩;rw[dg,ip aC,ip aC,ip aC,ip aC,if_neg Qd,if_neg Qd,if_neg Qd,if_neg Qd,au];show((if bX kV l.tail then _ else if bX mV l.tail then _ else _:PR St)).then _=_;rw[al,if_pos rfl,I];show(bw mu r).then _=_;rw[show bw mu r=.ok ((),r.tail)from aj];rfl
  ·rw[if_neg k7]at z
   cases z
theorem CQ {x:St} (a:x.ok=true):FK x:=sh _ x (ak _) a
theorem zl {v:Vr} (z:pd v=true) {l:List bT} {j:List K3} (X:Is l (zc v++j)):bX lz l=true/\ ∃r,Is r j/\jy l.tail=.ok (v,r):=by
 unfold pd at z;simp only[ag,decide_eq_true_eq]at z;obtain⟨⟨_,M⟩,K⟩:=z;obtain⟨nm,a⟩:=v;have M:0<=a:=M;have K:a<=2000:=K;have V:Is l (kW nS::(1,nm,0)::((if 0<a then[kM 91,(3,[],a),kM 93]else[])++kM 59::j)):=by
  have:zc ⟨nm,a⟩++j=kW nS::(1,nm,0)::((if 0<a then[kM 91,(3,[],a),kM 93]else[])++kM 59::j):=by simp[zc]
  rw[<-this];exact X
 obtain⟨_,_,I,_,O⟩:=lW V;obtain⟨G,h⟩:=jk O;refine⟨I,?_⟩;by_cases hs:0<a
 ·rw[if_pos hs]at h;have h:Is l.tail.tail (kM 91::(3,[],a)::kM 93::kM 59::j):=h;have A:bX mV l.tail.tail=true:=by rw[du h];rfl
  have R:=(cK h).2.2.2;obtain⟨af,_,ae,ad⟩:=cK R;obtain⟨ac,ab⟩:=dX ad;obtain⟨w,o⟩:=dX ab;refine⟨_,o,?_⟩;unfold jy;rw[G];show((if bX mV l.tail.tail then _ else _:PR Int)).then _=_;rw[A,if_pos rfl,if_pos af,ae,if_neg Qa,show bw qz l.tail.tail.tail.tail=.ok ((),l.tail.tail.tail.tail.tail)from ac];show(bw mu l.tail.tail.tail.tail.tail).then _=_;rw[show bw mu l.tail.tail.tail.tail.tail=.ok ((),l.tail.tail.tail.tail.tail.tail)from w];rfl
 ·rw[if_neg hs]at h;obtain rfl:a=0:=Qa
  have h:Is l.tail.tail (kM 59::j):=h;have A:bX mV l.tail.tail=false:=by rw[du h];rfl
  obtain⟨w,o⟩:=dX h;refine⟨_,o,?_⟩;unfold jy;rw[G];show((if bX mV l.tail.tail then _ else _:PR Int)).then _=_;rw[A,if_neg Qd];show(bw mu l.tail.tail).then _=_;rw[show bw mu l.tail.tail=.ok ((),l.tail.tail.tail)from w];rfl
theorem pV: ∀(z:List (List UInt8)),z≠ []-> ∀o l a F,Is l (jS z++kM 41::a)->(jS z).length+1<=F-> ∃r,Is r a/\eM F o l=.ok (o++z,r)
 | [],h,_,_,_,_,_,_=>absurd rfl h
 | [x],_,o,l,a,F,j,hF=>by
  obtain⟨F,rfl⟩: ∃G,F=G+1:=⟨F-1,by omega⟩
  have j:Is l ((1,x,0)::kM 41::a):=j;obtain⟨A,w⟩:=jk j;have e:bX je l.tail=true:=by rw[du w];rfl
  refine⟨_,(cK w).2.2.2,?_⟩;rw[eM,A];show(if bX je l.tail then _ else _)=_;rw[e,if_pos rfl]
 |x::y::r,_,o,l,a,F,j,hF=>by
  obtain⟨F,rfl⟩: ∃G,F=G+1:=⟨F-1,by omega⟩
  have X:jS (x::y::r)=(1,x,0)::kM 44::jS (y::r):=by simp[jS]
  rw[X]at j hF;simp only[ah]at hF;obtain⟨A,w⟩:=jk j;have e:bX je l.tail=false:=by rw[du (show Is l.tail (kM 44::(jS (y::r)++kM 41::a))from w)];rfl
  obtain⟨M,K⟩:=dX (show Is l.tail (kM 44::(jS (y::r)++kM 41::a))from w);obtain⟨O,V,R⟩:=pV (y::r) Qd (o++[x]) l.tail.tail a F K Qa;refine⟨O,V,?_⟩;rw[eM,A];show(if bX je l.tail then _ else(bw uY l.tail).then _)=_;rw[e,if_neg Qd,show bw uY l.tail=.ok ((),l.tail.tail)from M];show eM F (o++[x]) l.tail.tail=_;rw[R,aq];rfl
theorem yI {f:Fc} (af:oa f=true) {l:List bT} {h:List K3} {F:Nat} (ac:Is l (s9 f++h)) (ad:4*(s9 f).length<=F):bX lz l=false/\bw jO l=.ok ((),l.tail)/\ ∃r,Is r h/\jz F l.tail=.ok (f,r):=by
 have A:=kr af;rw[ib]at A;obtain⟨nm,ps,a⟩:=f;have ae: ∀y,y∈a->FK y:=λy I=>CQ (List.all_eq_true.1 A y I);have z:Is l (kW ww::(1,nm,0)::kM 40::(jS ps++kM 41::(fJ (c_ a)++h))):=by
  have:s9 ⟨nm,ps,a⟩++h=kW ww::(1,nm,0)::kM 40::(jS ps++kM 41::(fJ (c_ a)++h)):=by simp[s9]
  rw[<-this];exact ac
 have ad:4*((jS ps).length+(fJ (c_ a)).length+4)<=F:=by
  have:(s9 ⟨nm,ps,a⟩).length=(jS ps).length+(fJ (c_ a)).length+4:=by simp[s9];omega
  omega
 obtain⟨_,_,ah,_,M⟩:=lW z;have ag:bX jO l=true:=by rw[lX z];rfl
 obtain⟨R,O⟩:=jk M;obtain⟨G,j⟩:=dX O;refine⟨ah,by unfold bw;rw[ag,if_pos rfl],?_⟩;have ab: ∃r,Is r (fJ (c_ a)++h)/\fe F l.tail.tail.tail=.ok (ps,r):=by
  cases ps with
  |nil=>
   have j:Is l.tail.tail.tail (kM 41::(fJ (c_ a)++h)):=j;have e:bX je l.tail.tail.tail=true:=by rw[du j];rfl
   exact⟨_,(cK j).2.2.2,by unfold fe;rw[e,if_pos rfl]⟩
  |cons x r=>
   have e:bX je l.tail.tail.tail=false:=ip (show Is l.tail.tail.tail ((1,x,0)::_)from j) _;obtain⟨K,w,o⟩:=pV (x::r) Qd [] _ _ F j Qa;exact⟨K,w,by unfold fe;rw[e,if_neg Qd,o];rfl⟩
 obtain⟨r,w,o⟩:=ab;obtain⟨q,X,V⟩:=nG ae (F:=F) w Qa;refine⟨q,X,?_⟩;unfold jz;rw[R];show((bw kV l.tail.tail).then _:PR Fc)=_;rw[show bw kV l.tail.tail=.ok ((),l.tail.tail.tail)from G];show((fe F l.tail.tail.tail).then _:PR Fc)=_;rw[o];show((dn F r).then _:PR Fc)=_;rw[V];rfl
theorem p9: ∀(j:List Fc),j.all oa=true-> ∀(p:Pg) l F,Is l (j.flatMap s9)->4*(j.flatMap s9).length+4<=F->de F p l=.ok (⟨p.vs,p.fs++j⟩,[])
 | [],_,p,l,F,hi,hF=>by
  obtain⟨F,rfl⟩: ∃w,F=w+1:=⟨F-1,by omega⟩
  obtain rfl:l=[]:=by cases l with|nil=>rfl|cons a r=>cases hi
  rw[de,if_pos rfl,cT]
 |f::j,h,p,l,F,hi,hF=>by
  simp only[dV,ag]at h;obtain⟨F,rfl⟩: ∃w,F=w+1:=⟨F-1,by omega⟩
  simp only[bx,ac]at hi hF;have M:1<=(s9 f).length:=by simp[s9]
  obtain⟨K,o,r,G,A⟩:=yI h.1 (F:=F) hi Qa;have z:l≠ []:=by
   intro e;subst e;unfold bw at o;rw[show bX jO []=false from rfl,if_neg Qd]at o
   cases o
  rw[de,if_neg z,K,if_neg Qd,o];show((jz F l.tail).then _:PR Pg)=_;rw[A];show de F ⟨p.vs,p.fs++[f]⟩ r=_;rw[p9 j h.2 ⟨p.vs,p.fs++[f]⟩ r F G Qa,aq];rfl
theorem qS: ∀(vs:List Vr),vs.all pd=true-> ∀(a:List Fc),a.all oa=true-> ∀(p:Pg) l F,p.fs=[]->Is l (vs.flatMap zc++a.flatMap s9)->4*(vs.flatMap zc++a.flatMap s9).length+4<=F->de F p l=.ok (⟨p.vs++vs,a⟩,[])
 | [],_,a,hf,p,l,F,hp,hi,hF=>by
  rw[p9 a hf p l F hi hF,hp,cT,aP]
 |v::vs,h,a,hf,p,l,F,hp,hi,hF=>by
  simp only[dV,ag]at h;obtain⟨F,rfl⟩: ∃z,F=z+1:=⟨F-1,by omega⟩
  simp only[bx,aq,ac]at hi hF;have A:1<=(zc v).length:=by simp[zc]
  obtain⟨j,r,w,o⟩:=zl h.1 hi;rw[de,if_neg (lY j),j,if_pos rfl,o];show de F ⟨p.vs++[v],p.fs⟩ r=_;rw[qS vs h.2 a hf ⟨p.vs++[v],p.fs⟩ r F hp w (by simp only[ac];omega),aq];rfl
theorem CZ {p:Pg} (h:gx p=true):lQ (iZ p)=(p,0,0):=by
 obtain⟨a,z,o⟩:=zu h;have w:=h;unfold gx at h;simp only[ag]at h;have A:a.length=(p.vs.flatMap zc++p.fs.flatMap s9).length:=by
  have:(a.map (λt=>(t.k,t.t,t.v))).length=(GU p).length:=by rw[o]
  rw[eQ]at this;exact this
 have j:=qS p.vs h.1.1.1.1 p.fs h.1.1.1.2 lS a (4*a.length+8) rfl o Qa;unfold lQ;rw[z,if_pos rfl];unfold vw;have j:de (4*a.length+8) lS a=.ok (p,[]):=j;rw[j];show(if gx p then _ else _)=_;rw[w,if_pos rfl]
end
end Go.Proofs.YtddomeddabfinaaGreatDoor
