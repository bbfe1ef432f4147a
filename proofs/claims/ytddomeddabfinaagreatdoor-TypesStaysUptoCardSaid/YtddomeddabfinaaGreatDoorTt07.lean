/- Parts of the proof. -/
import Derived.Test.YtddomeddabfinaaGreatDoorTt00
import Derived.Test.YtddomeddabfinaaGreatDoorTt06
import Derived.LoopN
set_option maxRecDepth 100000
set_option maxHeartbeats 8000000
set_option linter.unusedVariables false
set_option linter.unusedSimpArgs false
set_option linter.unusedSectionVars false
namespace Go.Proofs.YtddomeddabfinaaGreatDoor
open IntKind(i64)
open Go.Proofs.Tryz
section
open Go.RowKit
theorem xW {a:World} {g:Nat} {l:List bT} {en:Int} (o:PA a g l en):SK a g en a.heap.size #[.int i64 0,.string ⟨#[]⟩,.slice none 0 0,.slice none 0 0,.slice none 0 0] (a.heap.size+1) #[.int i64 0,.string ⟨#[]⟩,.slice none 0 0,.slice none 0 0,.slice none 0 0] 72 (λ_=>True) l ((a.alloc (.cells #[.int i64 0,.string ⟨#[]⟩,.slice none 0 0,.slice none 0 0,.slice none 0 0] 72)).alloc (.cells #[.int i64 0,.string ⟨#[]⟩,.slice none 0 0,.slice none 0 0,.slice none 0 0] 72)):=by
 have h:=aw (a.alloc (.cells #[.int i64 0,.string ⟨#[]⟩,.slice none 0 0,.slice none 0 0,.slice none 0 0] 72)) 72 #[.int i64 0,.string ⟨#[]⟩,.slice none 0 0,.slice none 0 0,.slice none 0 0];rw[World.size_alloc]at h;have j:=(Z a (.cells #[.int i64 0,.string ⟨#[]⟩,.slice none 0 0,.slice none 0 0,.slice none 0 0] 72)).alloc' (.cells #[.int i64 0,.string ⟨#[]⟩,.slice none 0 0,.slice none 0 0,.slice none 0 0] 72);have w:=o.lt;exact⟨o.ext j,j.grownBy _,(aw a _ _).alloc _,h,by omega,trivial,λ_ _ _ _ _ _=>trivial⟩
section
variable {w W W':World} {g pb sb:Nat} {en:Int} {pc sc:Array Value} {ty:TypeId} {X:World->Prop} {l l':List bT}
theorem SK.simp (h:SK w g en pb pc sb sc ty X l W) {f:Nat} (ac:fL f) (I:jG f) (R:4*l.length+2<=f) {s:St} {q:List bT} (A:gU f l=.ok (s,q)):Calls prog 184 #[.pointer (some ⟨g,0,none⟩)] W λe W'=>
  ∃j n c B m d C i a,e=.returned (.agg #[.int i64 s.k,.string (J s.nm),.slice j n c,.slice B m d,.slice C i a])/\Hid (SK w g en pb pc sb sc ty (λG=>X G/\SV.ok G (λb=>sb<b) ⟨s,.slice j n c,.slice B m d,.slice C i a⟩) q W'):=by
 have K:=tu f ac I l en W g h.pa R;rw[A]at K;refine K.mono λe W' M=> ?_;obtain⟨ab,j,n,c,B,m,d,C,i,a,rfl,z,V⟩:=M;have ad:=h.sv.lt;exact⟨j,n,c,B,m,d,C,i,a,rfl,O ((h.step V ab).with (z.keep ⟨ak _,λ_ _ _=>rfl⟩ (λb o _=>by omega)) λk ae G af z A=>A.keep (.of_grown z λb o e=>by have:=h.nn;injection e with e;omega) (λb o _=>o))⟩
theorem SK.serr (j:SK w g en pb pc sb sc ty X l W) {f:Nat} (A:fL f) (z:jG f) (o:4*l.length+2<=f) {q:List bT} {n:Int} (G:gU f l=.error (q,n)):Calls prog 184 #[.pointer (some ⟨g,0,none⟩)] W λe W'=>e=bh en q n/\Hid (w.grownBy W' (some g)):=by
 have h:=tu f A z l en W g j.pa o;rw[G]at h;exact h.mono λe W' a=>⟨a.2,O (ap j.gr a.1)⟩
end
theorem xV (f:Nat) (ac:fL f) (aw:jG f) (ay:m8 f) (ax:FO f):B_ (f+1):=by
 intro l en ap g V aJ;have aI:=V.lt;have a:=O (xW V);have aB:ap.heap.size≠g:=Qa
 have aA:ap.heap.size+1≠g:=Qa
 have aH:g≠ap.heap.size:=Qa
 have aF:g≠ap.heap.size+1:=Qa
 obtain⟨z,w,o,j⟩:=a.out.cells;clear V;go_enter func148,ntmps148
 cases h1:bX Cc l with
 |true=>
  have aq:=bG h1;have au:4*l.tail.length+3<=f:=Qa
  go_wp2_with (go_at_call 98;refine(a.out.yes h1).mono ?_;rintro e A ⟨rfl,a⟩;clear z w o j;obtain⟨z,w,o,j⟩:=a.out.cells)
  cases hc:nP f l.tail with
  |error p=>
   obtain⟨q,ao⟩:=p;go_wp2_with (go_at_call 182;refine(a.out.ierr ax au hc).mono ?_;unfold bh;rintro e A ⟨rfl,G⟩);exact⟨rfl,dI (by rw[dg,if_pos h1,hc]) G.out⟩
  |ok p=>
   obtain⟨s,q⟩:=p;go_wp2_with (go_at_call 182;refine(a.out.if ax au hc).mono ?_;rintro e A ⟨an,af,ai,al,ae,ah,aj,ad,ag,rfl,a⟩;clear z w o j;obtain⟨z,w,o,j⟩:=a.out.cells);obtain⟨K,M⟩:=a.out.fin (r:=dg (f+1) l) (s) s.k (J s.nm) an af ai al ae ah aj ad ag (by rw[dg,if_pos h1,hc]) rfl rfl (λV=>V.2.keep ⟨ak _,λ_ _ _=>rfl⟩ (λb I _=>by omega));simp only[World.setCells,aG,Nat.reduceAdd]at K M;exact bodyPost_ret (v:=.agg #[.int i64 s.k,.string (J s.nm),.slice an af ai,.slice al ae ah,.slice aj ad ag]) (by simp[results,results148,go_sem,K]) rfl M
 |false=>
  have R:=h1;go_wp2_with (go_at_call 98;refine(a.out.no R).mono ?_;rintro e A ⟨rfl,a⟩;clear R;clear z w o j;obtain⟨z,w,o,j⟩:=a.out.cells)
  cases h2:bX pJ l with
  |true=>
   have aq:=bG h2;have ab:4*l.tail.length+2<=f:=Qa
   go_wp2_with (go_at_call 98;refine(a.out.yes h2).mono ?_;rintro e A ⟨rfl,a⟩;clear z w o j;obtain⟨z,w,o,j⟩:=a.out.cells)
   cases hx:bS f 1 l.tail with
   |error p=>
    obtain⟨q,ao⟩:=p;go_wp2_with (go_at_call 183;refine(a.out.xerr ac ab hx).mono ?_;unfold bh;rintro e A ⟨rfl,G⟩);exact⟨rfl,dI (by rw[dg,if_neg (by simp[h1]),if_pos h2,hx,bZ]) G.out⟩
   |ok p=>
    obtain⟨x,r⟩:=p;go_wp2_with (go_at_call 183;refine(a.out.expr ac ab hx).mono ?_;rintro e X ⟨az,n,c,rfl,a⟩;clear z w o j;obtain⟨z,w,o,j⟩:=a.out.cells);have aC:=(jV f).1 _ _ _ _ hx;have av:4*r.length+1<=f:=Qa
    cases I:dn f r with
    |error p=>
     obtain⟨q,ao⟩:=p;go_wp2_with (go_at_call 104;refine(a.out.berr ay av I).mono ?_;unfold bh;rintro e A ⟨rfl,G⟩);exact⟨rfl,dI (by rw[dg,if_neg (by simp[h1]),if_pos h2,hx,then_ok,I,bZ]) G.out⟩
    |ok p=>
     obtain⟨b,q⟩:=p;go_wp2_with (go_at_call 104;refine(a.out.block ay av I).mono ?_;rintro e A ⟨B,m,d,rfl,a⟩;clear z w o j;obtain⟨z,w,o,j⟩:=a.out.cells);obtain⟨K,M⟩:=a.out.fin (r:=dg (f+1) l) (.mk 5 [] [x] b []) 5 ⟨#[]⟩ (some ⟨X.heap.size,0,none⟩) 1 1 B m d none 0 0 (by rw[dg,if_neg (by simp[h1]),if_pos h2,hx,then_ok,I,then_ok]) rfl rfl (λV=>⟨V.1.2.mono (λb I _=>by omega),V.2.mono (λb I _=>by omega),.nil _ _⟩);simp only[World.setCells,aG,Nat.reduceAdd]at K M;exact bodyPost_ret (v:=.agg #[.int i64 5,.string ⟨#[]⟩,.slice (some ⟨X.heap.size,0,none⟩) 1 1,.slice B m d,.slice none 0 0]) (by simp[results,results148,go_sem,K]) rfl M
  |false=>
   have R:=h2;go_wp2_with (go_at_call 98;refine(a.out.no R).mono ?_;rintro e A ⟨rfl,a⟩;clear R;clear z w o j;obtain⟨z,w,o,j⟩:=a.out.cells)
   cases h3:bX lz l with
   |true=>
    have aq:=bG h3;go_wp2_with (go_at_call 98;refine(a.out.yes h3).mono ?_;rintro e A ⟨rfl,a⟩;clear z w o j;obtain⟨z,w,o,j⟩:=a.out.cells);by_cases hk:(cO l.tail).k=1
    rotate_left
    ·go_wp2_with (go_at_call 101;refine(a.out.noname hk).mono ?_;unfold bh;rintro e A ⟨rfl,G⟩);exact⟨rfl,dI (by rw[dg,if_neg (by simp[h1]),if_neg (by simp[h2]),if_pos h3,lU hk,bZ]) G.out⟩
    have aD:=jc (l:=l.tail) (by rw[hk];decide);go_wp2_with (go_at_call 101;refine(a.out.name hk).mono ?_;rintro e A ⟨rfl,a⟩;clear z w o j;obtain⟨z,w,o,j⟩:=a.out.cells;have k:=a.out.put5 Qa (.int i64 1) (.string (J (cO l.tail).t)) (.slice none 0 0) (.slice none 0 0) (.slice none 0 0);simp only[World.setCells,aG,Nat.reduceAdd,br,cg,cw]at k;have a:=O k;clear k)
    cases he:bX uX l.tail.tail with
    |true=>
     have aE:=bG he;have ab:4*l.tail.tail.tail.length+2<=f:=Qa
     go_wp2_with (go_at_call 98;refine(a.out.yes he).mono ?_;rintro e A ⟨rfl,a⟩;clear z w o j;obtain⟨z,w,o,j⟩:=a.out.cells)
     cases hx:bS f 1 l.tail.tail.tail with
     |error p=>
      obtain⟨q,ao⟩:=p;go_wp2_with (go_at_call 183;refine(a.out.xerr ac ab hx).mono ?_;unfold bh;rintro e A ⟨rfl,G⟩);exact⟨rfl,dI (by rw[dg,if_neg (by simp[h1]),if_neg (by simp[h2]),if_pos h3,bY hk,then_ok,if_pos he,hx,bZ,bZ]) G.out⟩
     |ok p=>
      obtain⟨x,r⟩:=p;go_wp2_with (go_at_call 183;refine(a.out.expr ac ab hx).mono ?_;rintro e X ⟨az,n,c,rfl,a⟩;clear z w o j;obtain⟨z,w,o,j⟩:=a.out.cells;have k:=a.out.set Qa 2 (.slice (some ⟨X.heap.size,0,none⟩) 1 1);simp only[World.setCells,aG,Nat.reduceAdd,br,cg,cw]at k;have a:=O k;clear k)
      cases hs:bX mu r with
      |true=>
       go_wp2_with (go_at_call 100;refine(a.out.want hs).mono ?_;rintro e A ⟨rfl,a⟩;clear z w o j;obtain⟨z,w,o,j⟩:=a.out.cells);obtain⟨K,M⟩:=a.out.fin (r:=dg (f+1) l) (.mk 1 (cO l.tail).t [x] [] []) 1 (J (cO l.tail).t) (some ⟨X.heap.size,0,none⟩) 1 1 none 0 0 none 0 0 (by rw[dg,if_neg (by simp[h1]),if_neg (by simp[h2]),if_pos h3,bY hk,then_ok,if_pos he,hx,then_ok,then_ok,cW hs,then_ok]) rfl rfl (λV=>⟨V.2.mono (λb I _=>by omega),.nil _ _,.nil _ _⟩);simp only[World.setCells,aG,Nat.reduceAdd]at K M;exact bodyPost_ret (v:=.agg #[.int i64 1,.string (J (cO l.tail).t),.slice (some ⟨X.heap.size,0,none⟩) 1 1,.slice none 0 0,.slice none 0 0]) (by simp[results,results148,go_sem,K]) rfl M
      |false=>
       go_wp2_with (go_at_call 100;refine(a.out.bad hs).mono ?_;unfold bh;rintro e A ⟨rfl,G⟩);exact⟨rfl,dI (by rw[dg,if_neg (by simp[h1]),if_neg (by simp[h2]),if_pos h3,bY hk,then_ok,if_pos he,hx,then_ok,then_ok,fE hs,bZ]) G.out⟩
    |false=>
     have R:=he;go_wp2_with (go_at_call 98;refine(a.out.no R).mono ?_;rintro e A ⟨rfl,a⟩;clear R;clear z w o j;obtain⟨z,w,o,j⟩:=a.out.cells)
     cases hs:bX mu l.tail.tail with
     |true=>
      go_wp2_with (go_at_call 100;refine(a.out.want hs).mono ?_;rintro e A ⟨rfl,a⟩;clear z w o j;obtain⟨z,w,o,j⟩:=a.out.cells);obtain⟨K,M⟩:=a.out.fin (r:=dg (f+1) l) (.mk 1 (cO l.tail).t [] [] []) 1 (J (cO l.tail).t) none 0 0 none 0 0 none 0 0 (by rw[dg,if_neg (by simp[h1]),if_neg (by simp[h2]),if_pos h3,bY hk,then_ok,if_neg (by simp[he]),then_ok,cW hs,then_ok]) rfl rfl (λ_=>⟨.nil _ _,.nil _ _,.nil _ _⟩);simp only[World.setCells,aG,Nat.reduceAdd]at K M;exact bodyPost_ret (v:=.agg #[.int i64 1,.string (J (cO l.tail).t),.slice none 0 0,.slice none 0 0,.slice none 0 0]) (by simp[results,results148,go_sem,K]) rfl M
     |false=>
      go_wp2_with (go_at_call 100;refine(a.out.bad hs).mono ?_;unfold bh;rintro e A ⟨rfl,G⟩);exact⟨rfl,dI (by rw[dg,if_neg (by simp[h1]),if_neg (by simp[h2]),if_pos h3,bY hk,then_ok,if_neg (by simp[he]),then_ok,fE hs,bZ]) G.out⟩
   |false=>
    have R:=h3;go_wp2_with (go_at_call 98;refine(a.out.no R).mono ?_;rintro e A ⟨rfl,a⟩;clear R;clear z w o j;obtain⟨z,w,o,j⟩:=a.out.cells)
    cases h4:bX np l with
    |true=>
     have aq:=bG h4;go_wp2_with (go_at_call 98;refine(a.out.yes h4).mono ?_;rintro e A ⟨rfl,a⟩;clear z w o j;obtain⟨z,w,o,j⟩:=a.out.cells;have k:=a.out.put5 Qa (.int i64 6) (.string ⟨#[]⟩) (.slice none 0 0) (.slice none 0 0) (.slice none 0 0);simp only[World.setCells,aG,Nat.reduceAdd,br,cg,cw]at k;have a:=O k;clear k)
     cases hs:bX mu l.tail with
     |true=>
      go_wp2_with (go_at_call 145;refine(a.out.is hs).mono ?_;rintro e A ⟨rfl,a⟩;clear z w o j;obtain⟨z,w,o,j⟩:=a.out.cells);go_wp2_with (go_at_call 100;refine(a.out.want hs).mono ?_;rintro e A ⟨rfl,a⟩;clear z w o j;obtain⟨z,w,o,j⟩:=a.out.cells);obtain⟨K,M⟩:=a.out.fin (r:=dg (f+1) l) (.mk 6 [] [] [] []) 6 ⟨#[]⟩ none 0 0 none 0 0 none 0 0 (by rw[dg,if_neg (by simp[h1]),if_neg (by simp[h2]),if_neg (by simp[h3]),if_pos h4,if_pos hs,then_ok,cW hs,then_ok]) rfl rfl (λ_=>⟨.nil _ _,.nil _ _,.nil _ _⟩);simp only[World.setCells,aG,Nat.reduceAdd]at K M;exact bodyPost_ret (v:=.agg #[.int i64 6,.string ⟨#[]⟩,.slice none 0 0,.slice none 0 0,.slice none 0 0]) (by simp[results,results148,go_sem,K]) rfl M
     |false=>
      have ab:4*l.tail.length+2<=f:=Qa
      go_wp2_with (go_at_call 145;refine(a.out.is hs).mono ?_;rintro e A ⟨rfl,a⟩;clear z w o j;obtain⟨z,w,o,j⟩:=a.out.cells)
      cases hx:bS f 1 l.tail with
      |error p=>
       obtain⟨q,ao⟩:=p;go_wp2_with (go_at_call 183;refine(a.out.xerr ac ab hx).mono ?_;unfold bh;rintro e A ⟨rfl,G⟩);exact⟨rfl,dI (by rw[dg,if_neg (by simp[h1]),if_neg (by simp[h2]),if_neg (by simp[h3]),if_pos h4,if_neg (by simp[hs]),hx,bZ,bZ]) G.out⟩
      |ok p=>
       obtain⟨x,r⟩:=p;go_wp2_with (go_at_call 183;refine(a.out.expr ac ab hx).mono ?_;rintro e X ⟨az,n,c,rfl,a⟩;clear z w o j;obtain⟨z,w,o,j⟩:=a.out.cells;have k:=a.out.set Qa 2 (.slice (some ⟨X.heap.size,0,none⟩) 1 1);simp only[World.setCells,aG,Nat.reduceAdd,br,cg,cw]at k;have a:=O k;clear k)
       cases ht:bX mu r with
       |true=>
        go_wp2_with (go_at_call 100;refine(a.out.want ht).mono ?_;rintro e A ⟨rfl,a⟩;clear z w o j;obtain⟨z,w,o,j⟩:=a.out.cells);obtain⟨K,M⟩:=a.out.fin (r:=dg (f+1) l) (.mk 6 [] [x] [] []) 6 ⟨#[]⟩ (some ⟨X.heap.size,0,none⟩) 1 1 none 0 0 none 0 0 (by rw[dg,if_neg (by simp[h1]),if_neg (by simp[h2]),if_neg (by simp[h3]),if_pos h4,if_neg (by simp[hs]),hx,then_ok,then_ok,cW ht,then_ok]) rfl rfl (λV=>⟨V.2.mono (λb I _=>by omega),.nil _ _,.nil _ _⟩);simp only[World.setCells,aG,Nat.reduceAdd]at K M;exact bodyPost_ret (v:=.agg #[.int i64 6,.string ⟨#[]⟩,.slice (some ⟨X.heap.size,0,none⟩) 1 1,.slice none 0 0,.slice none 0 0]) (by simp[results,results148,go_sem,K]) rfl M
       |false=>
        go_wp2_with (go_at_call 100;refine(a.out.bad ht).mono ?_;unfold bh;rintro e A ⟨rfl,G⟩);exact⟨rfl,dI (by rw[dg,if_neg (by simp[h1]),if_neg (by simp[h2]),if_neg (by simp[h3]),if_pos h4,if_neg (by simp[hs]),hx,then_ok,then_ok,fE ht,bZ]) G.out⟩
    |false=>
     have ar:4*l.length+2<=f:=Qa
     have R:=h4;go_wp2_with (go_at_call 98;refine(a.out.no R).mono ?_;rintro e A ⟨rfl,a⟩;clear R;clear z w o j;obtain⟨z,w,o,j⟩:=a.out.cells)
     cases hc:gU f l with
     |error p=>
      obtain⟨q,ao⟩:=p;go_wp2_with (go_at_call 184;refine(a.out.serr ac aw ar hc).mono ?_;unfold bh;rintro e A ⟨rfl,G⟩);exact⟨rfl,dI (by rw[mW f l h1 h2 h3 h4,hc,bZ]) G.out⟩
     |ok p=>
      obtain⟨s,r⟩:=p;go_wp2_with (go_at_call 184;refine(a.out.simp ac aw ar hc).mono ?_;rintro e A ⟨an,af,ai,al,ae,ah,aj,ad,ag,rfl,a⟩;clear z w o j;obtain⟨z,w,o,j⟩:=a.out.cells;have k:=a.out.put5 Qa (.int i64 s.k) (.string (J s.nm)) (.slice an af ai) (.slice al ae ah) (.slice aj ad ag);simp only[World.setCells,aG,Nat.reduceAdd,br,cg,cw]at k;have a:=O k;clear k)
      cases hs:bX mu r with
      |true=>
       go_wp2_with (go_at_call 100;refine(a.out.want hs).mono ?_;rintro e A ⟨rfl,a⟩;clear z w o j;obtain⟨z,w,o,j⟩:=a.out.cells);obtain⟨K,M⟩:=a.out.fin (r:=dg (f+1) l) (s) s.k (J s.nm) an af ai al ae ah aj ad ag (by rw[mW f l h1 h2 h3 h4,hc,then_ok,cW hs,then_ok]) rfl rfl (λV=>V.2.keep ⟨ak _,λ_ _ _=>rfl⟩ (λb I _=>by omega));simp only[World.setCells,aG,Nat.reduceAdd]at K M;exact bodyPost_ret (v:=.agg #[.int i64 s.k,.string (J s.nm),.slice an af ai,.slice al ae ah,.slice aj ad ag]) (by simp[results,results148,go_sem,K]) rfl M
      |false=>
       go_wp2_with (go_at_call 100;refine(a.out.bad hs).mono ?_;unfold bh;rintro e A ⟨rfl,G⟩);exact⟨rfl,dI (by rw[mW f l h1 h2 h3 h4,hc,then_ok,fE hs,bZ]) G.out⟩
theorem tn: ∀(f:Nat),f<=400000->(∀i,i<=f->B_ i)/\m8 f/\FO f
 |0,_=>by
  refine⟨λi G=> ?_,?_,?_⟩
  ·obtain rfl:i=0:=Qa
   intro l en j g a h;omega
  ·intro l en j g a h;omega
  ·intro l en j g a h;omega
 |f+1,h=>by
  obtain⟨A,z,w⟩:=tn f Qa;have o:=Bp (f:=f) Qa;have K:=xV f o (yC Qa) z w
  exact⟨λi G=>by
   rcases gt f i with a|a
   ·obtain rfl:i=f+1:=Qa
    exact K
   ·exact A i a,v7 f Qa A,DJ f o z w⟩
theorem rA {f:Nat} (a:f<=400000):m8 f:=(tn f a).2.1
theorem PA.set2 {a:World} {g:Nat} {l:List bT} {en:Int} {ps i:Nat} {v:Value} (z:PA a g l en) (A:g<ps): ∃h c,aU a g 155 #[.slice h l.length c,.int i64 en]/\aU (a.setCell ⟨ps,i,none⟩ v) g 155 #[.slice h l.length c,.int i64 en]/\xB (a.setCell ⟨ps,i,none⟩ v) h c l/\ ∀b off,h=some ⟨b,off,none⟩->l≠ []->b<g:=by
 obtain⟨h,c,j,o,w⟩:=z.grown (eF a ps i v) (λk e=>by injection e with e;omega);refine⟨h,c,?_,j,o,w⟩;exact(Below.heap_setCell a ⟨ps,i,none⟩ v g (by show g≠ps;omega)).symm.trans j
def Eb (g:Nat) (en:Int) (w:World) (r:PR Vr) (e:Ending) (w':World):Prop:=
 w.grownBy w' (some g)/\match r with
 | .ok (v,q)=>e=.returned (.agg #[.string (J v.nm),.int i64 v.sz])/\PA w' g q en
 | .error (q,n)=>e=bh en q n
theorem kX {g:Nat} {en:Int} {a w':World} {r:PR Vr} {q:List bT} {n:Int} (h:r=.error (q,n)) (j:a.grownBy w' (some g)):Eb g en a r (bh en q n) w':=by
 subst h;exact⟨j,rfl⟩
theorem Fm {o W:World} {g a:Nat} {en:Int} {q:List bT} {G A:Value} {r:PR Vr} (v:Vr) (j:ByteArray) (h:Int) (M:r=.ok (v,q)) (R:J v.nm=j) (K:v.sz=h) (O:o.heap.size<=a) (ab:aU W a 85 #[G,A]) (I:o.grownBy W (some g)) (X:PA W g q en) (ac:g<o.heap.size):
  (∀w,(W.setCells a 0 [.string j,.int i64 h]).cell? ⟨a,w,none⟩=(#[.string j,.int i64 h]:Array Value)[w]?)/\Eb g en o r (.returned (.agg #[.string j,.int i64 h])) (W.setCells a 0 [.string j,.int i64 h]):=by
 subst M R K;have z:=dx a [.string (J v.nm),.int i64 v.sz] 0 W;have V:=(ab.set 0 (.string (J v.nm))).set 1 (.int i64 v.sz);exact⟨λw=>by have:=V.cell w;simpa[World.setCells]using this,d8 I z O,rfl,X.grown z λk e=>by injection e with e;omega⟩
section
variable {w W W':World} {g pb sb:Nat} {en:Int} {pc sc:Array Value} {ty:TypeId} {X:World->Prop} {l l':List bT}
theorem SK.next (h:SK w g en pb pc sb sc ty X l W) {k v fr:Int} {tx:List UInt8} (j:cO l=⟨k,tx,v,fr⟩):Calls prog 146 #[.pointer (some ⟨g,0,none⟩)] W λe W'=>e=.returned (.agg #[.int i64 k,.string (J tx),.int i64 v,.int i64 fr])/\Hid (SK w g en pb pc sb sc ty X l (W'.alloc (.cells #[.int i64 k,.string (J tx),.int i64 v,.int i64 fr] 206))):=by
 have:=eZ g l en W h.pa;rw[j]at this;exact this.mono λe W' a=>⟨a.1,O (h.ext (a.2.alloc' _))⟩
theorem SK.fail (h:SK w g en pb pc sb sc ty X l W) (n:Int):Calls prog 147 #[.pointer (some ⟨g,0,none⟩),.int i64 n] W λe W'=>e=bh en l n/\Hid (w.grownBy W' (some g)):=
 (p_ g l en n W h.pa).mono λe W' a=>⟨a.1,O (ap h.gr (a.2.grownBy _))⟩
theorem SK.finV {A z:Value} (j:SK w g en w.heap.size #[A,z] sb sc 85 X l W) {r:PR Vr} (v:Vr) (h:ByteArray) (a:Int) (K:r=.ok (v,l)) (M:J v.nm=h) (G:v.sz=a):
  (∀o,(W.setCells w.heap.size 0 [.string h,.int i64 a]).cell? ⟨w.heap.size,o,none⟩=(#[.string h,.int i64 a]:Array Value)[o]?)/\Eb g en w r (.returned (.agg #[.string h,.int i64 a])) (W.setCells w.heap.size 0 [.string h,.int i64 a]):=
 Fm v h a K M G (ak _) j.rb j.gr j.pa j.nn.1
end
theorem wy (l:List bT) (en:Int) (M:World) (g:Nat) (aj:PA M g l en):Calls prog 99 #[.pointer (some ⟨g,0,none⟩)] M (Eb g en M (jy l)):=by
 have aC:=aj.lt;have a:=O (SK.one aj #[.string ⟨#[]⟩,.int i64 0] 85);have ay:M.heap.size≠g:=Qa
 have aB:g≠M.heap.size:=Qa
 obtain⟨z,w,o,j⟩:=a.out.cells;clear aj;go_enter func99,ntmps99;by_cases hk:(cO l).k=1
 rotate_left
 ·go_wp2_with (go_at_call 101;refine(a.out.noname hk).mono ?_;unfold bh;rintro e A ⟨rfl,K⟩);exact⟨rfl,kX (by unfold jy;rw[lU hk,bZ]) K.out⟩
 go_wp2_with (go_at_call 101;refine(a.out.name hk).mono ?_;rintro e R ⟨rfl,a⟩;have av:=a.out.rb.lt;have a:=O (a.out.open (Y:=λ_=>True) #[.string (J (cO l).t),.int i64 0] (λ_=>trivial) λ_ _ _ _ _ _=>trivial);have ax:R.heap.size≠g:=Qa;have aA:g≠R.heap.size:=Qa;have az:M.heap.size≠R.heap.size:=Qa;have aw:R.heap.size≠M.heap.size:=Qa;clear z w o j;obtain⟨z,w,o,j⟩:=a.out.cells)
 cases hb:bX mV l.tail with
 |true=>
  go_wp2_with (go_at_call 98;refine(a.out.yes hb).mono ?_;rintro e A ⟨rfl,a⟩;clear z w o j;obtain⟨z,w,o,j⟩:=a.out.cells);obtain⟨⟨k,tx,v,fr⟩,G⟩: ∃t,cO l.tail.tail=t:=⟨_,rfl⟩
  by_cases h3:k=3
  rotate_left
  ·have ar:(k==3)=false:=Ql.2 h3;have aD:(k !=3)=true:=by rw[bne,ar];rfl
   go_wp2_with (go_at_call 146;refine(a.out.next G).mono ?_;rintro e A ⟨rfl,a⟩;clear z w o j;obtain⟨z,w,o,j⟩:=a.out.cells);go_wp2_with (go_at_call 147;refine(a.out.fail 3).mono ?_;unfold bh;rintro e A ⟨rfl,K⟩);exact⟨rfl,kX (by unfold jy;rw[bY hk,then_ok,if_pos hb,G];dsimp only;rw[if_neg h3,bZ]) K.out⟩
  subst h3;by_cases al: ¬v<1
  rotate_left
  ·have al:v<1:=Qa
   go_wp2_with (go_at_call 146;refine(a.out.next G).mono ?_;rintro e A ⟨rfl,a⟩;clear z w o j;obtain⟨z,w,o,j⟩:=a.out.cells);go_wp2_with (go_at_call 147;refine(a.out.fail 2).mono ?_;unfold bh;rintro e A ⟨rfl,K⟩);exact⟨rfl,kX (by unfold jy;rw[bY hk,then_ok,if_pos hb,G];dsimp only;rw[if_pos rfl,if_pos (.inl al),bZ]) K.out⟩
  by_cases ak: ¬2000<v
  rotate_left
  ·have ak:2000<v:=Qa
   go_wp2_with (go_at_call 146;refine(a.out.next G).mono ?_;rintro e A ⟨rfl,a⟩;clear z w o j;obtain⟨z,w,o,j⟩:=a.out.cells);go_wp2_with (go_at_call 147;refine(a.out.fail 2).mono ?_;unfold bh;rintro e A ⟨rfl,K⟩);exact⟨rfl,kX (by unfold jy;rw[bY hk,then_ok,if_pos hb,G];dsimp only;rw[if_pos rfl,if_pos (.inr ak),bZ]) K.out⟩
  obtain⟨ao,r,ac⟩:=nz (show(cO l.tail.tail).k=3 by rw[G]) Qc;obtain rfl:ao=⟨3,tx,v,fr⟩:=by rw[ac]at G;exact G
  have ad:l.tail.tail.tail=r:=by rw[ac];rfl
  go_wp2_with (go_at_call 146;refine(a.out.next G).mono ?_;rintro e A ⟨rfl,a⟩;clear z w o j;obtain⟨z,w,o,j⟩:=a.out.cells;have ae:=a.out.pa;rw[ac]at ae;obtain⟨aE,c,ai,ah,I,af⟩:=ae.set2 (ps:=R.heap.size) (i:=1) (v:=.int i64 v) Qa;obtain⟨b,off,rfl,ag,_⟩:=I.at_ 0 Qd;have aq:=ai.cell;have ap:=ai.frozen;rw[ac]at a;clear ae ai);all_goals
   first|have ab:=PA.next_a ah I (af b off rfl Qd) ag (by assumption)|have ab:=PA.next_b ah I (af b off rfl Qd) ag (by assumption)
   have k:=(a.out.set Qa 1 (.int i64 v)).step ab.1 ab.2;simp only[br,cg,cw]at k;have a:=O k;clear ah I af ag aq ap z w o j ab k;generalize World.setCell _ _ _=au at*
   cases hr:bX qz r with
   |true=>
    obtain⟨z,w,o,j⟩:=a.out.cells;go_wp2_with (go_at_call 100;refine(a.out.want hr).mono ?_;rintro e A ⟨rfl,a⟩;clear z w o j;obtain⟨z,w,o,j⟩:=a.out.cells)
    cases hs:bX mu r.tail with
    |true=>
     go_wp2_with (go_at_call 100;refine(a.out.want hs).mono ?_;rintro e A ⟨rfl,a⟩;clear z w o j;obtain⟨z,w,o,j⟩:=a.out.cells);obtain⟨V,X⟩:=a.out.finV (r:=jy l) (⟨(cO l).t,v⟩) (J (cO l).t) v (by unfold jy;rw[bY hk,then_ok,if_pos hb,G];dsimp only;rw[if_pos rfl,if_neg Qa,ad,cW hr,then_ok,then_ok,cW hs,then_ok]) rfl rfl;simp only[World.setCells,aG]at V X;exact bodyPost_ret (v:=.agg #[.string (J (cO l).t),.int i64 v]) (by simp[results,results99,go_sem,V]) rfl X
    |false=>
     go_wp2_with (go_at_call 100;refine(a.out.bad hs).mono ?_;unfold bh;rintro e A ⟨rfl,K⟩);exact⟨rfl,kX (by unfold jy;rw[bY hk,then_ok,if_pos hb,G];dsimp only;rw[if_pos rfl,if_neg Qa,ad,cW hr,then_ok,then_ok,fE hs,bZ]) K.out⟩
   |false=>
    go_wp2_with (go_at_call 100;refine(a.out.bad hr).mono ?_;unfold bh;rintro e A ⟨rfl,K⟩);exact⟨rfl,kX (by unfold jy;rw[bY hk,then_ok,if_pos hb,G];dsimp only;rw[if_pos rfl,if_neg Qa,ad,fE hr,bZ,bZ]) K.out⟩
 |false=>
  have an:=hb;go_wp2_with (go_at_call 98;refine(a.out.no an).mono ?_;rintro e A ⟨rfl,a⟩;clear an;clear z w o j;obtain⟨z,w,o,j⟩:=a.out.cells)
  cases hs:bX mu l.tail with
  |true=>
   go_wp2_with (go_at_call 100;refine(a.out.want hs).mono ?_;rintro e A ⟨rfl,a⟩;clear z w o j;obtain⟨z,w,o,j⟩:=a.out.cells);obtain⟨V,X⟩:=a.out.finV (r:=jy l) (⟨(cO l).t,0⟩) (J (cO l).t) 0 (by unfold jy;rw[bY hk,then_ok,if_neg (by simp[hb]),then_ok,cW hs,then_ok]) rfl rfl;simp only[World.setCells,aG]at V X;exact bodyPost_ret (v:=.agg #[.string (J (cO l).t),.int i64 0]) (by simp[results,results99,go_sem,V]) rfl X
  |false=>
   go_wp2_with (go_at_call 100;refine(a.out.bad hs).mono ?_;unfold bh;rintro e A ⟨rfl,K⟩);exact⟨rfl,kX (by unfold jy;rw[bY hk,then_ok,if_neg (by simp[hb]),then_ok,fE hs,bZ]) K.out⟩
def mQ (w:World) (P:Nat->Prop) (v:Value) (ls:List (List UInt8)):Prop:=
 ∃A c,v=.slice A ls.length c/\(ls=[]\/ls.length<=c/\c<=maxLen/\ ∃b o,A=some ⟨b,o,none⟩/\P b/\b<w.heap.size/\ ∀i,(h:i<ls.length)->w.cell? ⟨b,o+i,none⟩=some (.string (J ls[i])))
theorem mQ.nil_ (a:World) (P:Nat->Prop):mQ a P (.slice none 0 0) []:=⟨none,0,rfl,.inl rfl⟩
theorem mQ.keep {w w':World} {P Q:Nat->Prop} {v:Value} {ls:List (List UInt8)} (h:mQ w P v ls) (j:cR P w w') (K: ∀b,P b->b<w.heap.size->Q b):mQ w' Q v ls:=by
 obtain⟨R,c,rfl,h⟩:=h;refine⟨R,c,rfl,h.imp id fun⟨O,M,b,z,ha,o,a,G⟩=>⟨O,M,b,z,ha,K b o a,aF a j.size,λi A=>(j.cell _ o a).trans (G i A)⟩⟩
theorem mQ.mono {a:World} {P Q:Nat->Prop} {v:Value} {ls:List (List UInt8)} (j:mQ a P v ls) (h: ∀b,P b->b<a.heap.size->Q b):mQ a Q v ls:=j.keep ⟨ak _,λ_ _ _=>rfl⟩ h
def qV (ls:List (List UInt8)):List Value:=ls.map λx=> .string (J x)
def wd (w:World) (base:Nat) (v:Value) (ls:List (List UInt8)):Prop:=w.ownsRow base 9 1 v ls.length (qV ls)
theorem wd.rd {a:World} {base:Nat} {v:Value} {ls:List (List UInt8)} (w:wd a base v ls):mQ a (λb=>base<=b) v ls:=by
 rcases w.2 with⟨rfl,o⟩|⟨g,cap,cur,rfl,hb,hg,hnc,hcm,hcs,ht⟩
 ·have:ls=[]:=ax o;subst this;exact .nil_ _ _
 ·refine⟨_,cap,rfl,.inr ⟨hnc,hcm,g,0,rfl,hb,(Array.getElem?_eq_some_iff.1 hg).1,λi j=> ?_⟩⟩;rw[aG,cell_of_row a g i cur 9 (0,0) hg];have h:(qV ls)[i]? =some (.string (J ls[i])):=by simp[qV,j]
  rw[<-ht,bL]at h;rw[if_pos Qa]at h;simpa using h
theorem Ir:ox prog 56 9 1 16 (.string ⟨#[]⟩):=⟨underlying56,by kernel_rfl,by rfl,by decide⟩
theorem AI (base g j z:Nat) (nm:List UInt8) (l:List bT) (en:Int) (a:World) (C:Option Addr) (n aj:Nat)
  (M:PA a g l en) (V:aU a z 153 #[.pointer (some ⟨g,0,none⟩)]) (R:aU a j 59 #[.string (J nm),.slice C n aj,.slice none 0 0])
  (ah:base<=a.heap.size) (az:g<j) (ay:g<z) (ad: ¬(cO l).k=1):
  Calls prog 103 #[.pointer (some ⟨j,0,none⟩),.pointer (some ⟨z,0,none⟩)] a λe w'=>e=bh en l 3/\Fr base g j a w':=by
 have ao:=O M;have aq:=O V;have al:=O R;have ax:g<a.heap.size:=M.lt;have ac:j≠g:=Qa
 have ag:z≠g:=Qa
 clear M V R;go_enter func103,ntmps103;refine bV 5 0 [(3,λv=>v=.string ⟨#[]⟩,λ_ _=>False),(4,λv=> ∃ab,v=.slice (some ⟨ab,0,none⟩) 1 1,λ_ _=>True)] 3 (some g) mixed Qb
  ⟨λ_ _ _ w _=>w,λ_ _ _ w _=>w,trivial⟩ ⟨.inl rfl,.inr λ_ _ _ w _=>w,trivial⟩ ?_
 repeat (refine sx ?_ (λav A=> ?_) ?_;rotate_left;(focus have aB:=(al.out.grown (aJ A) (λe=>ac (I e))).cell;have aA:=(aq.out.grown (aJ A) (λe=>ag (I e))).cell;clear A;go_simp<;>with_reducible rfl);simp only[a8,a7,a6,aZ,aY])
 refine bR _ _ Qe rfl ⟨_,rfl⟩ rfl (λG K o ak X=> ?_) ?_
 ·clear o;have af:=pW g l en G (ao.out.ext K.un) ad;have an:=O K.un;clear K;go_simp;refine af.mono ?_;unfold bh;rintro e au ⟨rfl,ai⟩;intro aC ae;exact⟨ae,rfl,dh (ap (an.out.grownBy _) ai) ah (λk e=>by injection e with e;omega)⟩
 rintro _ rfl;simp only[a8,a7,a6,aZ,aY];refine bg _ _ Qe rfl ⟨_,0,rfl⟩ Qd (λG A o ak X=> ?_) ?_
 ·clear o;go_simp;exact X _ _ (Z G _) ⟨_,rfl⟩ trivial
 rintro _ ⟨ab,rfl⟩;simp only[a8,a7,a6,aZ,aY];intro ar aw o;exact(o _ (.tail _ (.head _))).elim
theorem Df (base g w ad:Nat) (nm:List UInt8) (l:List bT) (en:Int) (j:World) (X:List (List UInt8)) (C:Option Addr) (n ah:Nat)
  (ak:PA j g l en) (az:aU j ad 153 #[.pointer (some ⟨g,0,none⟩)]) (z:aU j w 59 #[.string (J nm),.slice C n ah,.slice none 0 0])
  (aC:wd j base (.slice C n ah) X) (ay:X.length=n) (aO:base<=j.heap.size) (bl:g<w) (bj:g<ad) (bf:w<base) (bh:n<=100000) (aj:(cO l).k=1):
  Calls prog 103 #[.pointer (some ⟨w,0,none⟩),.pointer (some ⟨ad,0,none⟩)] j λe w'=>e=.returned (.tuple #[])/\Fr base g w j w'/\PA w' g l.tail en/\
   ∃aK cap',aU w' w 59 #[.string (J nm),.slice aK (n+1) cap',.slice none 0 0]/\wd w' base (.slice aK (n+1) cap') (X++[(cO l).t]):=by
 have a1:=O ak;have a5:=O az;have aH:=O z;have aI:=O (show j.ownsRow base 9 1 (.slice C n ah) n (qV X) by have:=aC;unfold wd at this;rwa [ay]at this);have bi:g<j.heap.size:=ak.lt;have ap:w≠g:=Qa
 have aN:ad≠g:=Qa
 clear ak az z aC;go_enter func103,ntmps103;refine bV 5 0 [(3,λv=>v=.string (J (cO l).t),λv ai=>PA ai g l.tail en),(4,λv=> ∃a,v=.slice (some ⟨a,0,none⟩) 1 1,λv ai=> ∀a,v=.slice (some ⟨a,0,none⟩) 1 1->j.heap.size<=a/\aU ai a 9 #[.string (J (cO l).t)])] 3 (some g) mixed Qb
  ⟨λ_ _ _ o z=>o.ext z,λ_ _ _ o z a e=>⟨(o a e).1,(o a e).2.ext z⟩,trivial⟩ ⟨.inl rfl,.inr λ_ _ _ o z a e=>⟨(o a e).1,(o a e).2.grown z (λaG=>by have:=(o a e).1;injection aG with aG;omega)⟩,trivial⟩ ?_
 repeat (refine sx ?_ (λba K=> ?_) ?_;rotate_left;(focus have bo:=(aH.out.grown (aJ K) (λe=>ap (I e))).cell;have bn:=(a5.out.grown (aJ K) (λe=>aN (I e))).cell;clear K;go_simp<;>with_reducible rfl);simp only[a8,a7,a6,aZ,aY])
 refine bR _ _ Qe rfl ⟨_,rfl⟩ rfl (λab aA G aS al=> ?_) ?_
 ·clear G;have aM:=jR g l en ab (a1.out.ext aA.un) aj;clear aA;go_simp;refine aM.mono ?_;rintro e a9 ⟨rfl,aR,aQ⟩;exact al _ _ aQ rfl aR
 rintro _ rfl;simp only[a8,a7,a6,aZ,aY];refine bg _ _ Qe rfl ⟨_,0,rfl⟩ Qd (λab K G aS al=> ?_) ?_
 ·have aL:=(aJ K).size;clear G K;go_simp;exact al _ _ (Z ab _) ⟨_,rfl⟩ (λa e=>by injection e with e;injection e with e;injection e with e;subst e;exact⟨aL,aw ab _ _⟩)
 rintro _ ⟨a,rfl⟩;simp only[a8,a7,a6,aZ,aY];intro ao A G;obtain⟨bk,aE⟩:=G _ (.head _) a rfl;have aF:=G _ (.tail _ (.head _));clear G;simp only[ae,au];have A:=aJ A;have bc:=A.size;have aq:=World.ownsRow.lt aI.out;have R:=λk aj=>(aq k aj).1
 have aB:=aI.out.kept A (by
  cases ho:Value.ownBlock (.slice C n ah)with
  |none=>exact .inl rfl
  |some k=>exact .inr λe=>by have:=R k ho;injection e with e;omega)
 have a4:=O (dh A aO (λk e=>by injection e with e;omega):Fr base g w j ao);have aV:=O (aH.out.grown A (λe=>ap (I e)));have aX:=O (show PA ao g l.tail en from aF);clear A aF aq;refine eA Ir rfl _ _ rfl base _ n (qV X) rfl aB a [.string (J (cO l).t)] rfl aE rfl (by simp[Value.oneCell']) Qa Qc Qa ?_;intro M cap' an av V ar;have af:=aV.out.grown V (λe=>by have:=R _ e.symm;omega);have ax:=aX.out.grown V (λk e=>by have:=R k e;omega);have aD:=a4.out.trans (dh V Qa (λk e=> .inr (.inr (R k e))));have be:=af.cell;have bd:=af.frozen;have ag:=eF an w 1 (.slice (some ⟨M,0,none⟩) (n+1) cap');have bb:=V.size;have aP:base<=an.heap.size:=Qa
 have bm:base<=M:=by
  rcases ar with o|o
  ·exact R M o.symm
  ·omega
 have aT:=O (af.set 1 (.slice (some ⟨M,0,none⟩) (n+1) cap'));have aW:=O (ax.grown ag (λk e=>by injection e with e;omega));have a3:=O (aD.trans (dh ag aP (λk e=> .inr (.inl (I e).symm))));have a2:=O (World.ownsRow.kept av ag (.inr (λe=>by have e:M=w:=I e;omega)));clear av V ar ag aD ax af aB aE;go_wp2_with fail
 go_end0
 refine⟨rfl,a3.out,aW.out,some ⟨M,0,none⟩,cap',by simpa using aT.out,?_⟩;have:=a2.out;unfold wd;rw[ac,ay];simpa[qV]using this
def H_ (base g pf:Nat) (nm:List UInt8) (en:Int) (w:World) (r:PR (List (List UInt8))) (e:Ending) (w':World):Prop:=
 Fr base g pf w w'/\match r with
 | .ok (a,q)=>e=.returned (.tuple #[])/\PA w' g q en/\ ∃C n cap,aU w' pf 59 #[.string (J nm),.slice C n cap,.slice none 0 0]/\mQ w' (λb=>base<=b) (.slice C n cap) a
 | .error (q,n)=>e=bh en q n
theorem mZ (f:Nat) (base g z V:Nat) (nm:List UInt8) (l:List bT) (en:Int) (K:World)
  (ar:PA K g l en) (ah:aU K V 153 #[.pointer (some ⟨g,0,none⟩)]) (aC:aU K z 59 #[.string (J nm),.slice none 0 0,.slice none 0 0])
  (aH:base<=K.heap.size) (aF:g<z) (aE:g<V) (aZ:V≠z) (aR:z<base) (aS:V<base) (aV:l.length+1<=f) (a2:l.length<=100000):
  Calls prog 102 #[.pointer (some ⟨g,0,none⟩),.func (Fn.func 103) #[] #[.pointer (some ⟨z,0,none⟩),.pointer (some ⟨V,0,none⟩)]] K (H_ base g z nm en K (fe f l)):=by
 have a5:=O ar;have aX:=O ah;have aK:=O aC;have R:=O (cQ g l en je K ar);clear ar ah aC
 cases hrp:bX je l with
 |true=>
  rw[hrp]at R;simp only[if_true]at R;have ay:=O (show fe f l=.ok ([],l.tail)from by unfold fe;rw[if_pos hrp]);go_enter func102,ntmps102;go_wp2_with (go_at_call 98;refine R.out.mono ?_;rintro e aO ⟨rfl,j,a⟩;have aA:=O j;have al:=O a;clear j a R)
  go_end0
  rw[ay.out];exact⟨dh al.out aH (λk e=>by injection e with e;omega),rfl,aA.out,_,_,_,aK.out.grown al.out (λe=>by injection e with e;omega),.nil_ _ _⟩
 |false=>
  rw[hrp]at R;simp only[aT,if_false]at R;have ay:=O (show fe f l=eM f [] l from by unfold fe;rw[if_neg (by rw[hrp];simp)]);go_enter func102,ntmps102;go_wp2_with (go_at_call 98;refine R.out.mono ?_;rintro e aO ⟨rfl,j,a⟩;have aA:=O j;have al:=O a;clear j a R)
  go_loopw [] (λwr=> ∃(k:Nat) (o:List (List UInt8)) (r:List bT) (C:Option Addr) (n ai:Nat),r.length+1<=k/\o.length=n/\n+r.length<=l.length/\Hid (eM k o r=fe f l)/\Hid (PA wr g r en)/\Hid (aU wr z 59 #[.string (J nm),.slice C n ai,.slice none 0 0])/\
   Hid (wd wr base (.slice C n ai) o)/\Hid (Fr base g z K wr)) (λwr=>tokN g wr)
  case atStart=>exact⟨f,[],l,none,0,0,aV,rfl,by omega,O ay.out.symm,aA,O (aK.out.grown al.out (λe=>by injection e with e;omega)),O (World.ownsRow_nil _ _ _ _),O (dh al.out aH (λk e=>by injection e with e;omega))⟩
  case round=>
   obtain⟨k,o,r,C,n,ai,a4,aD,a1,ax,az,aJ,aW,af⟩:=hrel;obtain⟨k,rfl⟩: ∃aP,k=aP+1:=⟨k-1,by omega⟩
   have aM:=O (af.out.blk aX.out aS Qa Qa);have aG:base<=wr.heap.size:=by have:=af.out.size;omega
   have av:=O (show eM (k+1) o r=(iH r).then λx q=>if bX je q then .ok (o++[x],q.tail)else(bw uY q).then λ_ q=>eM k (o++[x]) q from by rw[eM]);by_cases hkn:(cO r).k=1
   rotate_left
   ·have ab:=O (show fe f l=.error (r,3)from by rw[<-ax.out,av.out,lU hkn];rfl);have G:=O (AI base g z V nm r en wr C n ai az.out aM.out aJ.out aG aF aE hkn);unfold bh at G;go_wp2_with (go_at_call 103;refine G.out.mono ?_;rintro e ae ⟨rfl,w⟩;have A:=O (af.out.trans w);clear w G);exact⟨rfl,by rw[ab.out];exact⟨A.out,rfl⟩⟩
   ·have a3:=jc (l:=r) (by rw[hkn];decide);have G:=O (Df base g z V nm r en wr o C n ai az.out aM.out aJ.out aW.out aD aG aF aE aR Qa hkn);have aw:=O (show fe f l=if bX je r.tail then .ok (o++[(cO r).t],r.tail.tail)else(bw uY r.tail).then λ_ q=>eM k (o++[(cO r).t]) q from by rw[<-ax.out,av.out,bY hkn];rfl);clear ax av
    cases hr2:bX je r.tail with
    |true=>
     have ab:=O (show fe f l=.ok (o++[(cO r).t],r.tail.tail)from by rw[aw.out,if_pos hr2])
     go_wp2_with (first
      |(go_at_call 103;refine G.out.mono ?_;rintro e ae ⟨rfl,w,M,aq,an,X,I⟩;have A:=O (af.out.trans w);have ac:=O M;have au:=O X;have ao:=O I;clear w G M X I)
      |(go_at_call 98;refine(cQ g r.tail en je _ ac.out).mono ?_;rw[hr2];simp only[if_true];rintro e aB ⟨rfl,j,a⟩;have aj:=O j;have ad:=O a;clear j a))
     go_end0
     rw[ab.out];have ag:base<=ae.heap.size:=by have:=A.out.size;omega
     exact⟨A.out.trans (dh ad.out ag (λk e=>by injection e with e;omega)),rfl,aj.out,_,_,_,au.out.grown ad.out (λe=>by injection e with e;omega),ao.out.rd.keep (.of_grown ad.out λb ah e=>by injection e with e;omega) (λ_ ah _=>ah)⟩
    |false=>
     cases hcm:bX uY r.tail with
     |false=>
      have ab:=O (show fe f l=.error (r.tail,3)from by rw[aw.out,if_neg (by rw[hr2];simp),fE hcm];rfl)
      go_wp2_with (first
       |(go_at_call 103;refine G.out.mono ?_;rintro e ae ⟨rfl,w,M,aq,an,X,I⟩;have A:=O (af.out.trans w);have ac:=O M;clear w G M X I)
       |(go_at_call 98;refine(cQ g r.tail en je _ ac.out).mono ?_;rw[hr2];simp only[aT,if_false];rintro e aB ⟨rfl,j,a⟩;have aj:=O j;have ad:=O a;clear j a ac)
       |(go_at_call 100;refine(gX g r.tail en uY _ aj.out hcm).mono ?_;unfold bh;rintro e aN ⟨rfl,aI⟩;have ak:=O (ap ad.out aI);clear aI))
      have ag:base<=ae.heap.size:=by have:=A.out.size;omega
      exact⟨rfl,by rw[ab.out];exact⟨A.out.trans (dh ak.out ag (λk e=>by injection e with e;omega)),rfl⟩⟩
     |true=>
      have ab:=O (show eM k (o++[(cO r).t]) r.tail.tail=fe f l from by rw[aw.out,if_neg (by rw[hr2];simp),cW hcm];rfl);have aY:=bG hcm
      go_wp2_with (first
       |(go_at_call 103;refine G.out.mono ?_;rintro e ae ⟨rfl,w,M,aq,an,X,I⟩;have A:=O (af.out.trans w);have ac:=O M;have au:=O X;have ao:=O I;clear w G M X I)
       |(go_at_call 98;refine(cQ g r.tail en je _ ac.out).mono ?_;rw[hr2];simp only[aT,if_false];rintro e aB ⟨rfl,j,a⟩;have aj:=O j;have ad:=O a;clear j a ac)
       |(go_at_call 100;refine(eV g r.tail en uY _ aj.out hcm).mono ?_;rintro e aN ⟨rfl,j,a⟩;have aL:=O j;have ak:=O (ap ad.out a);clear j a))
      have ag:base<=ae.heap.size:=by have:=A.out.size;omega
      have aQ:=World.ownsRow.lt ao.out;go_roundw
      case rel=>exact⟨k,o++[(cO r).t],r.tail.tail,aq,n+1,an,by omega,by simp[aD],by omega,ab,aL,O (au.out.grown ak.out (λe=>by injection e with e;omega)),O (World.ownsRow.kept ao.out ak.out (by
       cases ho:Value.ownBlock (.slice aq (n+1) an)with
       |none=>exact .inl rfl
       |some k=>exact .inr λe=>by have:=(aQ k ho).1;injection e with e;omega)),O (A.out.trans (dh ak.out ag (λk e=>by injection e with e;omega)))⟩
      case measure=>rw[az.out.tokN,aL.out.tokN];omega
structure FV where
 c:Fc
 p:Value
 b:Value
def t8 (p:FV):List Value:=[.string (J p.c.nm),p.p,p.b]
def ij (l:List FV):List Value:=l.flatMap t8
def nN (v:Vr):List Value:=[.string (J v.nm),.int i64 v.sz]
def eB (l:List Vr):List Value:=l.flatMap nN
theorem rn (a b:List FV):ij (a++b)=ij a++ij b:=by simp[ij]
theorem nT (a b:List Vr):eB (a++b)=eB a++eB b:=by simp[eB]
theorem ir: ∀(l:List FV) (i:Nat) (a:i<l.length) (k:Nat),k<3->(ij l)[i*3+k]? =(t8 l[i])[k]?
 | [],i,a,k,hk=>by simp at a
 |p::l,0,a,k,hk=>by
  simp only[ij,bx,bp,aG,aK];rw[df (by simp[t8];omega)]
 |p::l,i+1,a,k,hk=>by
  have:=ir l i (by simpa using a) k hk;simp only[ij,bx,aV]at this⊢;rw[cC (by simp[t8];omega),<-this]
  congr 1
  simp[t8];omega
theorem il: ∀(l:List Vr) (i:Nat) (a:i<l.length) (k:Nat),k<2->(eB l)[i*2+k]? =(nN l[i])[k]?
 | [],i,a,k,hk=>by simp at a
 |p::l,0,a,k,hk=>by
  simp only[eB,bx,bp,aG,aK];rw[df (by simp[nN];omega)]
 |p::l,i+1,a,k,hk=>by
  have:=il l i (by simpa using a) k hk;simp only[eB,bx,aV]at this⊢;rw[cC (by simp[nN];omega),<-this]
  congr 1
  simp[nN];omega
def FV.ok (w:World) (P:Nat->Prop) (p:FV):Prop:=mQ w P p.p p.c.ps/\db w P p.b p.c.body
theorem FV.ok.keep {w w':World} {P Q:Nat->Prop} {p:FV} (j:p.ok w P) (a:cR P w w') (h: ∀b,P b->b<w.heap.size->Q b):p.ok w' Q:=⟨j.1.keep a h,j.2.keep a h⟩
def ik (w:World) (P:Nat->Prop) (v:Value) (vs:List Vr):Prop:=
 ∃A c,v=.slice A vs.length c/\(vs=[]\/vs.length<=c/\c<=maxLen/\ ∃b o,A=some ⟨b,o,none⟩/\P b/\b<w.heap.size/\ ∀i,(h:i<vs.length)->w.cell? ⟨b,o+i*2,none⟩=some (.string (J vs[i].nm))/\w.cell? ⟨b,o+i*2+1,none⟩=some (.int i64 vs[i].sz))
theorem ik.keep {w w':World} {P Q:Nat->Prop} {v:Value} {vs:List Vr} (o:ik w P v vs) (h:cR P w w') (K: ∀b,P b->b<w.heap.size->Q b):ik w' Q v vs:=by
 obtain⟨R,c,rfl,o⟩:=o;exact⟨R,c,rfl,o.imp id fun⟨O,M,b,G,ha,j,a,A⟩=>⟨O,M,b,G,ha,K b j a,aF a h.size,λi z=>⟨(h.cell _ j a).trans (A i z).1,(h.cell _ j a).trans (A i z).2⟩⟩⟩
def jl (w:World) (P:Nat->Prop) (v:Value) (fs:List Fc):Prop:=
 ∃A c,v=.slice A fs.length c/\(fs=[]\/fs.length<=c/\c<=maxLen/\ ∃b o,A=some ⟨b,o,none⟩/\P b/\b<w.heap.size/\ ∃pv bv:Nat->Value,∀i,(h:i<fs.length)->w.cell? ⟨b,o+i*3,none⟩=some (.string (J fs[i].nm))/\w.cell? ⟨b,o+i*3+1,none⟩=some (pv i)/\w.cell? ⟨b,o+i*3+2,none⟩=some (bv i)/\
  mQ w P (pv i) fs[i].ps/\db w P (bv i) fs[i].body)
theorem jl.keep {w w':World} {P Q:Nat->Prop} {v:Value} {A:List Fc} (z:jl w P v A) (a:cR P w w') (o: ∀b,P b->b<w.heap.size->Q b):jl w' Q v A:=by
 obtain⟨I,c,rfl,z⟩:=z
 exact⟨I,c,rfl,z.imp id fun⟨V,R,b,K,ha,j,h,G,X,O⟩=>⟨V,R,b,K,ha,o b j h,aF h a.size,G,X,λi M=>let⟨q0,q1,q2,q3,q4⟩:=O i M
  ⟨(a.cell _ j h).trans q0,(a.cell _ j h).trans q1,(a.cell _ j h).trans q2,q3.keep a o,q4.keep a o⟩⟩⟩
def lF (w:World) (base:Nat) (vv fv:Value) (vs:List Vr) (fs:List FV):Prop:=
 w.ownsRow base 85 2 vv vs.length (eB vs)/\w.ownsRow base 59 3 fv fs.length (ij fs)/\(∀k,vv.ownBlock=some k->fv.ownBlock≠some k)/\ ∀p,p∈fs->p.ok w (λb=>base<=b/\some b≠vv.ownBlock/\some b≠fv.ownBlock)
theorem lF.nil_ (a:World) (base:Nat):lF a base (.slice none 0 0) (.slice none 0 0) [] []:=⟨World.ownsRow_nil _ _ _ _,World.ownsRow_nil _ _ _ _,λk j=>(by cases j),λp h=>(by cases h)⟩
theorem gH {a w':World} {base:Nat} {e:TypeId} {h n:Nat} {v:Value} {xs:List Value} (j:a.ownsRow base e h v n xs) (o: ∀b,base<=b->b<a.heap.size->v.ownBlock=some b->w'.heap[b]? =a.heap[b]?):w'.ownsRow base e h v n xs:=by
 refine⟨j.1,?_⟩;rcases j.2 with w|⟨g,cap,cur,hv,hb,hg,hr⟩
 ·exact .inl w
 ·exact .inr ⟨g,cap,cur,hv,hb,(o g hb (Array.getElem?_eq_some_iff.1 hg).1 (by rw[hv];rfl)).trans hg,hr⟩
theorem lF.keepW {a w':World} {base:Nat} {A G:Value} {vs:List Vr} {K:List FV} (h:lF a base A G vs K) (M:a.heap.size<=w'.heap.size) (j: ∀b,base<=b->b<a.heap.size->w'.heap[b]? =a.heap[b]?):lF w' base A G vs K:=
 ⟨gH h.1 (λb z w _=>j b z w),gH h.2.1 (λb z w _=>j b z w),h.2.2.1,λp O=>(h.2.2.2 p O).keep ⟨M,λb o R=>j b o.1 R⟩ (λb o _=>o)⟩
theorem lF.grown {a w':World} {base:Nat} {h o:Value} {vs:List Vr} {w:List FV} {row:Option Nat} (G:lF a base h o vs w) (j:a.grownBy w' row) (z: ∀k,row=some k->k<base):lF w' base h o vs w:=
 G.keepW j.size λb K A=>j.block b A (λe=>by have:=z b e.symm;omega)
theorem lF.snocV {o w':World} {base:Nat} {w M:Value} {vs:List Vr} {O:List FV} {v:Vr} {h n R:Nat} (ag:lF o base w M vs O) (ae:vs.length=n) (ab:w'.ownsRow base 85 2 (.slice (some ⟨h,0,none⟩) (n+1) R) (n+1) (eB vs++nN v))
  (A:o.grownBy w' w.ownBlock) (a:some h=w.ownBlock\/h=o.heap.size):lF w' base (.slice (some ⟨h,0,none⟩) (n+1) R) M (vs++[v]) O:=by
 subst ae;obtain⟨ai,K,G,af⟩:=ag;have ad:=World.ownsRow.lt K;refine⟨by rw[ac,nT];simpa[eB]using ab,gH K (λb _ j V=>A.block b j (λe=>G b e.symm V)),λk z e=> ?_,λp X=>(af p X).keep (.of_grown A λb j=>j.2.1) λb j ah=>⟨j.1,λe=> ?_,j.2.2⟩⟩
 ·have z:h=k:=I z;subst z;rcases a with a|a
  ·exact G h a.symm e
  ·have:=(ad h e).2;omega
 ·have e:b=h:=I e;subst e;rcases a with a|a
  ·exact j.2.1 a
  ·omega
theorem lF.snocF {w w':World} {base:Nat} {z A:Value} {vs:List Vr} {G:List FV} {p:FV} {h n M:Nat} (ai:lF w base z A vs G) (ad:p.ok w (λb=>base<=b/\some b≠z.ownBlock/\some b≠A.ownBlock)) (ag:G.length=n) (ae:w'.ownsRow base 59 3 (.slice (some ⟨h,0,none⟩) (n+1) M) (n+1) (ij G++t8 p))
  (K:w.grownBy w' A.ownBlock) (j:some h=A.ownBlock\/h=w.heap.size):lF w' base z (.slice (some ⟨h,0,none⟩) (n+1) M) vs (G++[p]):=by
 subst ag;obtain⟨X,ak,V,ah⟩:=ai;have af:=World.ownsRow.lt X
 have O: ∀b,(base<=b/\some b≠z.ownBlock/\some b≠A.ownBlock)->b<w.heap.size->(base<=b/\some b≠z.ownBlock/\some b≠Value.ownBlock (.slice (some ⟨h,0,none⟩) (G.length+1) M)):=λb a aj=>⟨a.1,a.2.1,λe=>by
  have e:b=h:=I e;subst e;rcases j with j|j
  ·exact a.2.2 j
  ·omega⟩
 refine⟨gH X (λb _ a ab=>K.block b a (λe=>V b ab e.symm)),by rw[ac,rn];simpa[ij]using ae,λk R e=> ?_,λq o=> ?_⟩
 ·have e:h=k:=I e;subst e;rcases j with j|j
  ·exact V h R j.symm
  ·have:=(af h R).2;omega
 ·rcases List.mem_append.1 o with o|o
  ·exact(ah q o).keep (.of_grown K λb a=>a.2.2) O
  ·rw[cP]at o;subst o;exact ad.keep (.of_grown K λb a=>a.2.2) O
theorem lF.rd {o:World} {base:Nat} {K V:Value} {vs:List Vr} {a:List FV} (O:lF o base K V vs a):ik o (λb=>base<=b) K vs/\jl o (λb=>base<=b) V (a.map (·.c)):=by
 obtain⟨ab,I,_,X⟩:=O;constructor
 ·rcases ab.2 with⟨rfl,M⟩|⟨g,cap,cur,rfl,A,hg,hnc,hcm,hcs,ht⟩
  ·have:vs=[]:=ax M;subst this;exact⟨none,0,rfl,.inl rfl⟩
  ·have w: ∀h y,(eB vs)[h]? =some y->o.cell? ⟨g,h,none⟩=some y:=λh y j=>by
    rw[cell_of_row o g h cur 85 (0,0) hg];rw[<-ht,bL]at j;split at j
    ·simpa using j
    ·cases j
   exact⟨_,cap,rfl,.inr ⟨hnc,hcm,g,0,rfl,A,(Array.getElem?_eq_some_iff.1 hg).1,λi G=>by
    rw[aG]
    exact⟨w _ _ (il vs i G 0 Qa),w _ _ (il vs i G 1 Qa)⟩⟩⟩
 ·rcases I.2 with⟨rfl,M⟩|⟨g,cap,cur,rfl,A,hg,hnc,hcm,hcs,ht⟩
  ·have:a=[]:=ax M;subst this;exact⟨none,0,rfl,.inl rfl⟩
  ·have w: ∀h y,(ij a)[h]? =some y->o.cell? ⟨g,h,none⟩=some y:=λh y j=>by
    rw[cell_of_row o g h cur 59 (0,0) hg];rw[<-ht,bL]at j;split at j
    ·simpa using j
    ·cases j
   refine⟨some ⟨g,0,none⟩,cap,by simp,.inr ⟨by simpa using hnc,hcm,g,0,rfl,A,(Array.getElem?_eq_some_iff.1 hg).1,λi=>if O:i<a.length then a[i].p else .slice none 0 0,λi=>if O:i<a.length then a[i].b else .slice none 0 0,λi G=> ?_⟩⟩;have z:i<a.length:=by simpa using G
   have ac:(a.map (·.c))[i]=a[i].c:=Qd
   have R:=(X a[i] (ay z)).keep (P:=λb=>base<=b/\some b≠K.ownBlock/\some b≠Value.ownBlock (.slice (some ⟨g,0,none⟩) a.length cap)) (w':=o) ⟨ak _,λ_ _ _=>rfl⟩ (Q:=λb=>base<=b) (λb A _=>A.1);rw[ac];simp only[aG,dif_pos z];exact⟨w _ _ (ir a i z 0 Qa),w _ _ (ir a i z 1 Qa),w _ _ (ir a i z 2 Qa),R.1,R.2⟩
theorem uD:ox prog 31 85 2 24 (.agg #[.string ⟨#[]⟩,.int i64 0]):=⟨underlying31,by kernel_rfl,by rfl,by decide⟩
theorem Ij:ox prog 32 59 3 64 (.agg #[.string ⟨#[]⟩,.slice none 0 0,.slice none 0 0]):=⟨underlying32,by kernel_rfl,by rfl,by decide⟩
def FL (g:Nat) (en:Int) (w:World) (r:PR Pg) (e:Ending) (w':World):Prop:=
 w.grownBy w' (some g)/\match r with
 | .ok (p,q)=> ∃A n c B m d,e=.returned (.agg #[.slice A n c,.slice B m d])/\ik w' (λb=>w.heap.size<=b) (.slice A n c) p.vs/\jl w' (λb=>w.heap.size<=b) (.slice B m d) p.fs
 | .error (q,n)=>e=bh en q n
theorem mw {g:Nat} {en:Int} {a w':World} {r:PR Pg} {q:List bT} {n:Int} (h:r=.error (q,n)) (j:a.grownBy w' (some g)):FL g en a r (bh en q n) w':=by
 subst h;exact⟨j,rfl⟩
end
end Go.Proofs.YtddomeddabfinaaGreatDoor
