/- Parts of the proof. -/
import Derived.Test.YtoedmpgicdekmaaGreatDoorCo06
set_option maxRecDepth 100000
set_option maxHeartbeats 8000000
set_option linter.all false
namespace Go.Proofs.YtoedmpgicdekmaaGreatDoor
open IntKind(i64)
open Go.Proofs.Tryz
section
open Go.RowKit
theorem y_ {a:World} {g:Nat} {l:List cB} {en:Int} (o:PA a g l en):SK a g en a.heap.size #[.int i64 0,.string ⟨#[]⟩,.slice none 0 0,.slice none 0 0,.slice none 0 0] (a.heap.size+1) #[.int i64 0,.string ⟨#[]⟩,.slice none 0 0,.slice none 0 0,.slice none 0 0] 147 (λ_=>True) l ((a.alloc (.cells #[.int i64 0,.string ⟨#[]⟩,.slice none 0 0,.slice none 0 0,.slice none 0 0] 147)).alloc (.cells #[.int i64 0,.string ⟨#[]⟩,.slice none 0 0,.slice none 0 0,.slice none 0 0] 147)):=by
 have d:=aq (a.alloc (.cells #[.int i64 0,.string ⟨#[]⟩,.slice none 0 0,.slice none 0 0,.slice none 0 0] 147)) 147 #[.int i64 0,.string ⟨#[]⟩,.slice none 0 0,.slice none 0 0,.slice none 0 0];rw[World.size_alloc]at d;have h:=(aa a (.cells #[.int i64 0,.string ⟨#[]⟩,.slice none 0 0,.slice none 0 0,.slice none 0 0] 147)).alloc' (.cells #[.int i64 0,.string ⟨#[]⟩,.slice none 0 0,.slice none 0 0,.slice none 0 0] 147);have u:=o.lt;exact⟨o.ext h,h.grownBy _,(aq a _ _).alloc _,d,by omega,trivial,λ_ _ _ _ _ _=>trivial⟩
section
variable {w W W':World} {g pb sb:Nat} {en:Int} {pc sc:Array Value} {ty:TypeId} {X:World->Prop} {l l':List cB}
theorem SK.simp (K:SK w g en pb pc sb sc ty X l W) {f:Nat} (I:fO f) (V:jY f) (F:4*l.length+2<=f) {s:St} {q:List cB} (u:ik f l=.ok (s,q)):Calls prog 205 #[.pointer (some ⟨g,0,none⟩)] W λe W'=>
  ∃d n c B m a C i j,e=.returned (.agg #[.int i64 s.k,.string (Z s.nm),.slice d n c,.slice B m a,.slice C i j])/\Hid (SK w g en pb pc sb sc ty (λy=>X y/\SV.ok y (λb=>sb<b) ⟨s,.slice d n c,.slice B m a,.slice C i j⟩) q W'):=by
 have z:=uG f I V l en W g K.pa F;rw[u]at z;refine z.mono λe W' A=> ?_;obtain⟨aa,d,n,c,B,m,a,C,i,j,rfl,o,R⟩:=A;have H:=K.sv.lt;exact⟨d,n,c,B,m,a,C,i,j,rfl,G ((K.step R aa).with (o.keep ⟨ah _,λ_ _ _=>rfl⟩ (λb h _=>by omega)) λk ad y ae o u=>u.keep (.of_grown o λb h e=>by have:=K.nn;injection e with e;omega) (λb h _=>h))⟩
theorem SK.serr (K:SK w g en pb pc sb sc ty X l W) {f:Nat} (u:fO f) (o:jY f) (h:4*l.length+2<=f) {q:List cB} {n:Int} (y:ik f l=.error (q,n)):Calls prog 205 #[.pointer (some ⟨g,0,none⟩)] W λe W'=>e=be en q n/\Hid (w.grownBy W' (some g)):=by
 have d:=uG f u o l en W g K.pa h;rw[y]at d;exact d.mono λe W' a=>⟨a.2,G (an K.gr a.1)⟩
end
theorem y7 (f:Nat) (I:fO f) (ar:jY f) (av:nN f) (au:Hf f):Dz (f+1):=by
 intro l en am g R aH;have aG:=R.lt;have K:=G (y_ R);have az:am.heap.size≠g:=J
 have ay:am.heap.size+1≠g:=J
 have aF:g≠am.heap.size:=J
 have aD:g≠am.heap.size+1:=J
 obtain⟨u,o,d,a⟩:=K.out.cells;clear R;go_enter func160,ntmps160
 cases h1:dJ Ic l with
 |true=>
  have an:=bO h1;have ap:4*l.tail.length+3<=f:=J
  go_wp2_with (go_at_call 97;refine(K.out.yes h1).mono ?_;rintro e w ⟨rfl,K⟩;clear u o d a;obtain⟨u,o,d,a⟩:=K.out.cells)
  cases hc:qg f l.tail with
  |error p=>
   obtain⟨q,al⟩:=p;go_wp2_with (go_at_call 203;refine(K.out.ierr au ap hc).mono ?_;unfold be;rintro e w ⟨rfl,y⟩);exact⟨rfl,dQ (by rw[ei,if_pos h1,hc]) y.out⟩
  |ok p=>
   obtain⟨s,q⟩:=p;go_wp2_with (go_at_call 203;refine(K.out.if au ap hc).mono ?_;rintro e w ⟨aj,ae,c1,ai,ad,c2,ag,H,af,rfl,K⟩;clear u o d a;obtain⟨u,o,d,a⟩:=K.out.cells);obtain⟨z,A⟩:=K.out.fin (r:=ei (f+1) l) (s) s.k (Z s.nm) aj ae c1 ai ad c2 ag H af (by rw[ei,if_pos h1,hc]) rfl rfl (λR=>R.2.keep ⟨ah _,λ_ _ _=>rfl⟩ (λb X _=>by omega));simp only[World.setCells,aE,Nat.reduceAdd]at z A;exact bodyPost_ret (v:=.agg #[.int i64 s.k,.string (Z s.nm),.slice aj ae c1,.slice ai ad c2,.slice ag H af]) (by simp[results,results160,go_sem,z]) rfl A
 |false=>
  have F:=h1;go_wp2_with (go_at_call 97;refine(K.out.no F).mono ?_;rintro e w ⟨rfl,K⟩;clear F;clear u o d a;obtain⟨u,o,d,a⟩:=K.out.cells)
  cases h2:dJ wV l with
  |true=>
   have an:=bO h2;have aa:4*l.tail.length+2<=f:=J
   go_wp2_with (go_at_call 97;refine(K.out.yes h2).mono ?_;rintro e w ⟨rfl,K⟩;clear u o d a;obtain⟨u,o,d,a⟩:=K.out.cells)
   cases hx:cF f 1 l.tail with
   |error p=>
    obtain⟨q,al⟩:=p;go_wp2_with (go_at_call 204;refine(K.out.xerr I aa hx).mono ?_;unfold be;rintro e w ⟨rfl,y⟩);exact⟨rfl,dQ (by rw[ei,if_neg (by simp[h1]),if_pos h2,hx,cv]) y.out⟩
   |ok p=>
    obtain⟨x,r⟩:=p;go_wp2_with (go_at_call 204;refine(K.out.expr I aa hx).mono ?_;rintro e V ⟨ax,n,c,rfl,K⟩;clear u o d a;obtain⟨u,o,d,a⟩:=K.out.cells);have aA:=(ke f).1 _ _ _ _ hx;have aq:4*r.length+1<=f:=J
    cases X:ej f r with
    |error p=>
     obtain⟨q,al⟩:=p;go_wp2_with (go_at_call 103;refine(K.out.berr av aq X).mono ?_;unfold be;rintro e w ⟨rfl,y⟩);exact⟨rfl,dQ (by rw[ei,if_neg (by simp[h1]),if_pos h2,hx,then_ok,X,cv]) y.out⟩
    |ok p=>
     obtain⟨b,q⟩:=p;go_wp2_with (go_at_call 103;refine(K.out.block av aq X).mono ?_;rintro e w ⟨B,m,aw,rfl,K⟩;clear u o d a;obtain⟨u,o,d,a⟩:=K.out.cells);obtain⟨z,A⟩:=K.out.fin (r:=ei (f+1) l) (.mk 5 [] [x] b []) 5 ⟨#[]⟩ (some ⟨V.heap.size,0,none⟩) 1 1 B m aw none 0 0 (by rw[ei,if_neg (by simp[h1]),if_pos h2,hx,then_ok,X,then_ok]) rfl rfl (λR=>⟨R.1.2.mono (λb X _=>by omega),R.2.mono (λb X _=>by omega),.nil _ _⟩);simp only[World.setCells,aE,Nat.reduceAdd]at z A;exact bodyPost_ret (v:=.agg #[.int i64 5,.string ⟨#[]⟩,.slice (some ⟨V.heap.size,0,none⟩) 1 1,.slice B m aw,.slice none 0 0]) (by simp[results,results160,go_sem,z]) rfl A
  |false=>
   have F:=h2;go_wp2_with (go_at_call 97;refine(K.out.no F).mono ?_;rintro e w ⟨rfl,K⟩;clear F;clear u o d a;obtain⟨u,o,d,a⟩:=K.out.cells)
   cases h3:dJ nZ l with
   |true=>
    have an:=bO h3;go_wp2_with (go_at_call 97;refine(K.out.yes h3).mono ?_;rintro e w ⟨rfl,K⟩;clear u o d a;obtain⟨u,o,d,a⟩:=K.out.cells);by_cases hk:(cX l.tail).k=1
    rotate_left
    ·go_wp2_with (go_at_call 100;refine(K.out.noname hk).mono ?_;unfold be;rintro e w ⟨rfl,y⟩);exact⟨rfl,dQ (by rw[ei,if_neg (by simp[h1]),if_neg (by simp[h2]),if_pos h3,l8 hk,cv]) y.out⟩
    have aB:=jv (l:=l.tail) (by rw[hk];decide);go_wp2_with (go_at_call 100;refine(K.out.name hk).mono ?_;rintro e w ⟨rfl,K⟩;clear u o d a;obtain⟨u,o,d,a⟩:=K.out.cells;have k:=K.out.put5 J (.int i64 1) (.string (Z (cX l.tail).t)) (.slice none 0 0) (.slice none 0 0) (.slice none 0 0);simp only[World.setCells,aE,Nat.reduceAdd,a8,b7,b_]at k;have K:=G k;clear k)
    cases he:dJ FG l.tail.tail with
    |true=>
     have aC:=bO he;have aa:4*l.tail.tail.tail.length+2<=f:=J
     go_wp2_with (go_at_call 97;refine(K.out.yes he).mono ?_;rintro e w ⟨rfl,K⟩;clear u o d a;obtain⟨u,o,d,a⟩:=K.out.cells)
     cases hx:cF f 1 l.tail.tail.tail with
     |error p=>
      obtain⟨q,al⟩:=p;go_wp2_with (go_at_call 204;refine(K.out.xerr I aa hx).mono ?_;unfold be;rintro e w ⟨rfl,y⟩);exact⟨rfl,dQ (by rw[ei,if_neg (by simp[h1]),if_neg (by simp[h2]),if_pos h3,cj hk,then_ok,if_pos he,hx,cv,cv]) y.out⟩
     |ok p=>
      obtain⟨x,r⟩:=p;go_wp2_with (go_at_call 204;refine(K.out.expr I aa hx).mono ?_;rintro e V ⟨ax,n,c,rfl,K⟩;clear u o d a;obtain⟨u,o,d,a⟩:=K.out.cells;have k:=K.out.set J 2 (.slice (some ⟨V.heap.size,0,none⟩) 1 1);simp only[World.setCells,aE,Nat.reduceAdd,a8,b7,b_]at k;have K:=G k;clear k)
      cases hs:dJ zg r with
      |true=>
       go_wp2_with (go_at_call 99;refine(K.out.want hs).mono ?_;rintro e w ⟨rfl,K⟩;clear u o d a;obtain⟨u,o,d,a⟩:=K.out.cells);obtain⟨z,A⟩:=K.out.fin (r:=ei (f+1) l) (.mk 1 (cX l.tail).t [x] [] []) 1 (Z (cX l.tail).t) (some ⟨V.heap.size,0,none⟩) 1 1 none 0 0 none 0 0 (by rw[ei,if_neg (by simp[h1]),if_neg (by simp[h2]),if_pos h3,cj hk,then_ok,if_pos he,hx,then_ok,then_ok,db hs,then_ok]) rfl rfl (λR=>⟨R.2.mono (λb X _=>by omega),.nil _ _,.nil _ _⟩);simp only[World.setCells,aE,Nat.reduceAdd]at z A;exact bodyPost_ret (v:=.agg #[.int i64 1,.string (Z (cX l.tail).t),.slice (some ⟨V.heap.size,0,none⟩) 1 1,.slice none 0 0,.slice none 0 0]) (by simp[results,results160,go_sem,z]) rfl A
      |false=>
       go_wp2_with (go_at_call 99;refine(K.out.bad hs).mono ?_;unfold be;rintro e w ⟨rfl,y⟩);exact⟨rfl,dQ (by rw[ei,if_neg (by simp[h1]),if_neg (by simp[h2]),if_pos h3,cj hk,then_ok,if_pos he,hx,then_ok,then_ok,fH hs,cv]) y.out⟩
    |false=>
     have F:=he;go_wp2_with (go_at_call 97;refine(K.out.no F).mono ?_;rintro e w ⟨rfl,K⟩;clear F;clear u o d a;obtain⟨u,o,d,a⟩:=K.out.cells)
     cases hs:dJ zg l.tail.tail with
     |true=>
      go_wp2_with (go_at_call 99;refine(K.out.want hs).mono ?_;rintro e w ⟨rfl,K⟩;clear u o d a;obtain⟨u,o,d,a⟩:=K.out.cells);obtain⟨z,A⟩:=K.out.fin (r:=ei (f+1) l) (.mk 1 (cX l.tail).t [] [] []) 1 (Z (cX l.tail).t) none 0 0 none 0 0 none 0 0 (by rw[ei,if_neg (by simp[h1]),if_neg (by simp[h2]),if_pos h3,cj hk,then_ok,if_neg (by simp[he]),then_ok,db hs,then_ok]) rfl rfl (λ_=>⟨.nil _ _,.nil _ _,.nil _ _⟩);simp only[World.setCells,aE,Nat.reduceAdd]at z A;exact bodyPost_ret (v:=.agg #[.int i64 1,.string (Z (cX l.tail).t),.slice none 0 0,.slice none 0 0,.slice none 0 0]) (by simp[results,results160,go_sem,z]) rfl A
     |false=>
      go_wp2_with (go_at_call 99;refine(K.out.bad hs).mono ?_;unfold be;rintro e w ⟨rfl,y⟩);exact⟨rfl,dQ (by rw[ei,if_neg (by simp[h1]),if_neg (by simp[h2]),if_pos h3,cj hk,then_ok,if_neg (by simp[he]),then_ok,fH hs,cv]) y.out⟩
   |false=>
    have F:=h3;go_wp2_with (go_at_call 97;refine(K.out.no F).mono ?_;rintro e w ⟨rfl,K⟩;clear F;clear u o d a;obtain⟨u,o,d,a⟩:=K.out.cells)
    cases h4:dJ td l with
    |true=>
     have an:=bO h4;go_wp2_with (go_at_call 97;refine(K.out.yes h4).mono ?_;rintro e w ⟨rfl,K⟩;clear u o d a;obtain⟨u,o,d,a⟩:=K.out.cells;have k:=K.out.put5 J (.int i64 6) (.string ⟨#[]⟩) (.slice none 0 0) (.slice none 0 0) (.slice none 0 0);simp only[World.setCells,aE,Nat.reduceAdd,a8,b7,b_]at k;have K:=G k;clear k)
     cases hs:dJ zg l.tail with
     |true=>
      go_wp2_with (go_at_call 157;refine(K.out.is hs).mono ?_;rintro e w ⟨rfl,K⟩;clear u o d a;obtain⟨u,o,d,a⟩:=K.out.cells);go_wp2_with (go_at_call 99;refine(K.out.want hs).mono ?_;rintro e w ⟨rfl,K⟩;clear u o d a;obtain⟨u,o,d,a⟩:=K.out.cells);obtain⟨z,A⟩:=K.out.fin (r:=ei (f+1) l) (.mk 6 [] [] [] []) 6 ⟨#[]⟩ none 0 0 none 0 0 none 0 0 (by rw[ei,if_neg (by simp[h1]),if_neg (by simp[h2]),if_neg (by simp[h3]),if_pos h4,if_pos hs,then_ok,db hs,then_ok]) rfl rfl (λ_=>⟨.nil _ _,.nil _ _,.nil _ _⟩);simp only[World.setCells,aE,Nat.reduceAdd]at z A;exact bodyPost_ret (v:=.agg #[.int i64 6,.string ⟨#[]⟩,.slice none 0 0,.slice none 0 0,.slice none 0 0]) (by simp[results,results160,go_sem,z]) rfl A
     |false=>
      have aa:4*l.tail.length+2<=f:=J
      go_wp2_with (go_at_call 157;refine(K.out.is hs).mono ?_;rintro e w ⟨rfl,K⟩;clear u o d a;obtain⟨u,o,d,a⟩:=K.out.cells)
      cases hx:cF f 1 l.tail with
      |error p=>
       obtain⟨q,al⟩:=p;go_wp2_with (go_at_call 204;refine(K.out.xerr I aa hx).mono ?_;unfold be;rintro e w ⟨rfl,y⟩);exact⟨rfl,dQ (by rw[ei,if_neg (by simp[h1]),if_neg (by simp[h2]),if_neg (by simp[h3]),if_pos h4,if_neg (by simp[hs]),hx,cv,cv]) y.out⟩
      |ok p=>
       obtain⟨x,r⟩:=p;go_wp2_with (go_at_call 204;refine(K.out.expr I aa hx).mono ?_;rintro e V ⟨ax,n,c,rfl,K⟩;clear u o d a;obtain⟨u,o,d,a⟩:=K.out.cells;have k:=K.out.set J 2 (.slice (some ⟨V.heap.size,0,none⟩) 1 1);simp only[World.setCells,aE,Nat.reduceAdd,a8,b7,b_]at k;have K:=G k;clear k)
       cases ht:dJ zg r with
       |true=>
        go_wp2_with (go_at_call 99;refine(K.out.want ht).mono ?_;rintro e w ⟨rfl,K⟩;clear u o d a;obtain⟨u,o,d,a⟩:=K.out.cells);obtain⟨z,A⟩:=K.out.fin (r:=ei (f+1) l) (.mk 6 [] [x] [] []) 6 ⟨#[]⟩ (some ⟨V.heap.size,0,none⟩) 1 1 none 0 0 none 0 0 (by rw[ei,if_neg (by simp[h1]),if_neg (by simp[h2]),if_neg (by simp[h3]),if_pos h4,if_neg (by simp[hs]),hx,then_ok,then_ok,db ht,then_ok]) rfl rfl (λR=>⟨R.2.mono (λb X _=>by omega),.nil _ _,.nil _ _⟩);simp only[World.setCells,aE,Nat.reduceAdd]at z A;exact bodyPost_ret (v:=.agg #[.int i64 6,.string ⟨#[]⟩,.slice (some ⟨V.heap.size,0,none⟩) 1 1,.slice none 0 0,.slice none 0 0]) (by simp[results,results160,go_sem,z]) rfl A
       |false=>
        go_wp2_with (go_at_call 99;refine(K.out.bad ht).mono ?_;unfold be;rintro e w ⟨rfl,y⟩);exact⟨rfl,dQ (by rw[ei,if_neg (by simp[h1]),if_neg (by simp[h2]),if_neg (by simp[h3]),if_pos h4,if_neg (by simp[hs]),hx,then_ok,then_ok,fH ht,cv]) y.out⟩
    |false=>
     have ao:4*l.length+2<=f:=J
     have F:=h4;go_wp2_with (go_at_call 97;refine(K.out.no F).mono ?_;rintro e w ⟨rfl,K⟩;clear F;clear u o d a;obtain⟨u,o,d,a⟩:=K.out.cells)
     cases hc:ik f l with
     |error p=>
      obtain⟨q,al⟩:=p;go_wp2_with (go_at_call 205;refine(K.out.serr I ar ao hc).mono ?_;unfold be;rintro e w ⟨rfl,y⟩);exact⟨rfl,dQ (by rw[nu f l h1 h2 h3 h4,hc,cv]) y.out⟩
     |ok p=>
      obtain⟨s,r⟩:=p;go_wp2_with (go_at_call 205;refine(K.out.simp I ar ao hc).mono ?_;rintro e w ⟨aj,ae,c1,ai,ad,c2,ag,H,af,rfl,K⟩;clear u o d a;obtain⟨u,o,d,a⟩:=K.out.cells;have k:=K.out.put5 J (.int i64 s.k) (.string (Z s.nm)) (.slice aj ae c1) (.slice ai ad c2) (.slice ag H af);simp only[World.setCells,aE,Nat.reduceAdd,a8,b7,b_]at k;have K:=G k;clear k)
      cases hs:dJ zg r with
      |true=>
       go_wp2_with (go_at_call 99;refine(K.out.want hs).mono ?_;rintro e w ⟨rfl,K⟩;clear u o d a;obtain⟨u,o,d,a⟩:=K.out.cells);obtain⟨z,A⟩:=K.out.fin (r:=ei (f+1) l) (s) s.k (Z s.nm) aj ae c1 ai ad c2 ag H af (by rw[nu f l h1 h2 h3 h4,hc,then_ok,db hs,then_ok]) rfl rfl (λR=>R.2.keep ⟨ah _,λ_ _ _=>rfl⟩ (λb X _=>by omega));simp only[World.setCells,aE,Nat.reduceAdd]at z A;exact bodyPost_ret (v:=.agg #[.int i64 s.k,.string (Z s.nm),.slice aj ae c1,.slice ai ad c2,.slice ag H af]) (by simp[results,results160,go_sem,z]) rfl A
      |false=>
       go_wp2_with (go_at_call 99;refine(K.out.bad hs).mono ?_;unfold be;rintro e w ⟨rfl,y⟩);exact⟨rfl,dQ (by rw[nu f l h1 h2 h3 h4,hc,then_ok,fH hs,cv]) y.out⟩
theorem uB: ∀(f:Nat),f<=400000->(∀i,i<=f->Dz i)/\nN f/\Hf f
 |0,_=>by
  refine⟨λi hi=> ?_,?_,?_⟩
  ·obtain rfl:i=0:=J
   intro l en h g a d;omega
  ·intro l en h g a d;omega
  ·intro l en h g a d;omega
 |f+1,d=>by
  obtain⟨y,w,u⟩:=uB f J;have o:=Cn (f:=f) J;have z:=y7 f o (zy J) w u
  exact⟨λi hi=>by
   rcases fg f i with a|a
   ·obtain rfl:i=f+1:=J
    exact z
   ·exact y i a,xK f J y,EI f o w u⟩
theorem sC {f:Nat} (a:f<=400000):nN f:=(uB f a).2.1
theorem PA.set2 {a:World} {g:Nat} {l:List cB} {en:Int} {ps i:Nat} {v:Value} (w:PA a g l en) (y:g<ps): ∃d c,aO a g 124 #[.slice d l.length c,.int i64 en]/\aO (a.setCell ⟨ps,i,none⟩ v) g 124 #[.slice d l.length c,.int i64 en]/\yG (a.setCell ⟨ps,i,none⟩ v) d c l/\ ∀b off,d=some ⟨b,off,none⟩->l≠ []->b<g:=by
 obtain⟨d,c,h,o,u⟩:=w.grown (fK a ps i v) (λk e=>by injection e with e;omega);refine⟨d,c,?_,h,o,u⟩;exact(Below.heap_setCell a ⟨ps,i,none⟩ v g (by show g≠ps;omega)).symm.trans h
def Fs (g:Nat) (en:Int) (w:World) (r:PR Vr) (e:Ending) (w':World):Prop:=
 w.grownBy w' (some g)/\match r with
 | .ok (v,q)=>e=.returned (.agg #[.string (Z v.nm),.int i64 v.sz])/\PA w' g q en
 | .error (q,n)=>e=be en q n
theorem kW {g:Nat} {en:Int} {a w':World} {r:PR Vr} {q:List cB} {n:Int} (d:r=.error (q,n)) (h:a.grownBy w' (some g)):Fs g en a r (be en q n) w':=by
 subst d;exact⟨h,rfl⟩
theorem GQ {o W:World} {g a:Nat} {en:Int} {q:List cB} {z y:Value} {r:PR Vr} (v:Vr) (h:ByteArray) (d:Int) (F:r=.ok (v,q)) (R:Z v.nm=h) (A:v.sz=d) (G:o.heap.size<=a) (I:aO W a 76 #[z,y]) (aa:o.grownBy W (some g)) (X:PA W g q en) (H:g<o.heap.size):
  (∀u,(W.setCells a 0 [.string h,.int i64 d]).cell? ⟨a,u,none⟩=(#[.string h,.int i64 d]:Array Value)[u]?)/\Fs g en o r (.returned (.agg #[.string h,.int i64 d])) (W.setCells a 0 [.string h,.int i64 d]):=by
 subst F R A;have w:=em a [.string (Z v.nm),.int i64 v.sz] 0 W;have V:=(I.set 0 (.string (Z v.nm))).set 1 (.int i64 v.sz);exact⟨λu=>by have:=V.cell u;simpa[World.setCells]using this,et aa w G,rfl,X.grown w λk e=>by injection e with e;omega⟩
section
variable {w W W':World} {g pb sb:Nat} {en:Int} {pc sc:Array Value} {ty:TypeId} {X:World->Prop} {l l':List cB}
theorem SK.next (K:SK w g en pb pc sb sc ty X l W) {k v fr:Int} {tx:List UInt8} (d:cX l=⟨k,tx,v,fr⟩):Calls prog 158 #[.pointer (some ⟨g,0,none⟩)] W λe W'=>e=.returned (.agg #[.int i64 k,.string (Z tx),.int i64 v,.int i64 fr])/\Hid (SK w g en pb pc sb sc ty X l (W'.alloc (.cells #[.int i64 k,.string (Z tx),.int i64 v,.int i64 fr] 188))):=by
 have:=fq g l en W K.pa;rw[d]at this;exact this.mono λe W' a=>⟨a.1,G (K.ext (a.2.alloc' _))⟩
theorem SK.fail (K:SK w g en pb pc sb sc ty X l W) (n:Int):Calls prog 159 #[.pointer (some ⟨g,0,none⟩),.int i64 n] W λe W'=>e=be en l n/\Hid (w.grownBy W' (some g)):=
 (qW g l en n W K.pa).mono λe W' a=>⟨a.1,G (an K.gr (a.2.grownBy _))⟩
theorem SK.finV {u o:Value} (K:SK w g en w.heap.size #[u,o] sb sc 76 X l W) {r:PR Vr} (v:Vr) (d:ByteArray) (a:Int) (z:r=.ok (v,l)) (A:Z v.nm=d) (y:v.sz=a):
  (∀h,(W.setCells w.heap.size 0 [.string d,.int i64 a]).cell? ⟨w.heap.size,h,none⟩=(#[.string d,.int i64 a]:Array Value)[h]?)/\Fs g en w r (.returned (.agg #[.string d,.int i64 a])) (W.setCells w.heap.size 0 [.string d,.int i64 a]):=
 GQ v d a z A y (ah _) K.rb K.gr K.pa K.nn.1
end
theorem xX (l:List cB) (en:Int) (A:World) (g:Nat) (ai:PA A g l en):Calls prog 98 #[.pointer (some ⟨g,0,none⟩)] A (Fs g en A (kF l)):=by
 have aB:=ai.lt;have K:=G (SK.one ai #[.string ⟨#[]⟩,.int i64 0] 76);have ax:A.heap.size≠g:=J
 have aA:g≠A.heap.size:=J
 obtain⟨u,o,d,a⟩:=K.out.cells;clear ai;go_enter func98,ntmps98;by_cases hk:(cX l).k=1
 rotate_left
 ·go_wp2_with (go_at_call 100;refine(K.out.noname hk).mono ?_;unfold be;rintro e w ⟨rfl,z⟩);exact⟨rfl,kW (by unfold kF;rw[l8 hk,cv]) z.out⟩
 go_wp2_with (go_at_call 100;refine(K.out.name hk).mono ?_;rintro e F ⟨rfl,K⟩;have au:=K.out.rb.lt;have K:=G (K.out.open (Y:=λ_=>True) #[.string (Z (cX l).t),.int i64 0] (λ_=>trivial) λ_ _ _ _ _ _=>trivial);have aw:F.heap.size≠g:=J;have az:g≠F.heap.size:=J;have ay:A.heap.size≠F.heap.size:=J;have av:F.heap.size≠A.heap.size:=J;clear u o d a;obtain⟨u,o,d,a⟩:=K.out.cells)
 cases hb:dJ tg l.tail with
 |true=>
  go_wp2_with (go_at_call 97;refine(K.out.yes hb).mono ?_;rintro e w ⟨rfl,K⟩;clear u o d a;obtain⟨u,o,d,a⟩:=K.out.cells);obtain⟨⟨k,tx,v,fr⟩,y⟩: ∃t,cX l.tail.tail=t:=⟨_,rfl⟩
  by_cases h3:k=3
  rotate_left
  ·have aq:(k==3)=false:=Qn.2 h3;have aC:(k !=3)=true:=by rw[bne,aq];rfl
   go_wp2_with (go_at_call 158;refine(K.out.next y).mono ?_;rintro e w ⟨rfl,K⟩;clear u o d a;obtain⟨u,o,d,a⟩:=K.out.cells);go_wp2_with (go_at_call 159;refine(K.out.fail 3).mono ?_;unfold be;rintro e w ⟨rfl,z⟩);exact⟨rfl,kW (by unfold kF;rw[cj hk,then_ok,if_pos hb,y];dsimp only;rw[if_neg h3,cv]) z.out⟩
  subst h3;by_cases al: ¬v<1
  rotate_left
  ·have al:v<1:=J
   go_wp2_with (go_at_call 158;refine(K.out.next y).mono ?_;rintro e w ⟨rfl,K⟩;clear u o d a;obtain⟨u,o,d,a⟩:=K.out.cells);go_wp2_with (go_at_call 159;refine(K.out.fail 2).mono ?_;unfold be;rintro e w ⟨rfl,z⟩);exact⟨rfl,kW (by unfold kF;rw[cj hk,then_ok,if_pos hb,y];dsimp only;rw[if_pos rfl,if_pos (.inl al),cv]) z.out⟩
  by_cases aj: ¬2000<v
  rotate_left
  ·have aj:2000<v:=J
   go_wp2_with (go_at_call 158;refine(K.out.next y).mono ?_;rintro e w ⟨rfl,K⟩;clear u o d a;obtain⟨u,o,d,a⟩:=K.out.cells);go_wp2_with (go_at_call 159;refine(K.out.fail 2).mono ?_;unfold be;rintro e w ⟨rfl,z⟩);exact⟨rfl,kW (by unfold kF;rw[cj hk,then_ok,if_pos hb,y];dsimp only;rw[if_pos rfl,if_pos (.inr aj),cv]) z.out⟩
  obtain⟨an,r,I⟩:=oB (show(cX l.tail.tail).k=3 by rw[y]) Qd;obtain rfl:an=⟨3,tx,v,fr⟩:=by rw[I]at y;exact y
  have H:l.tail.tail.tail=r:=by rw[I];rfl
  go_wp2_with (go_at_call 158;refine(K.out.next y).mono ?_;rintro e w ⟨rfl,K⟩;clear u o d a;obtain⟨u,o,d,a⟩:=K.out.cells;have ad:=K.out.pa;rw[I]at ad;obtain⟨aD,c,ah,ag,X,ae⟩:=ad.set2 (ps:=F.heap.size) (i:=1) (v:=.int i64 v) J;obtain⟨b,off,rfl,af,_⟩:=X.at_ 0 Qe;have ap:=ah.cell;have ao:=ah.frozen;rw[I]at K;clear ad ah);all_goals
   first|have aa:=PA.next_a ag X (ae b off rfl Qe) af (by assumption)|have aa:=PA.next_b ag X (ae b off rfl Qe) af (by assumption)
   have k:=(K.out.set J 1 (.int i64 v)).step aa.1 aa.2;simp only[a8,b7,b_]at k;have K:=G k;clear ag X ae af ap ao u o d a aa k;generalize World.setCell _ _ _=ar at*
   cases hr:dJ we r with
   |true=>
    obtain⟨u,o,d,a⟩:=K.out.cells;go_wp2_with (go_at_call 99;refine(K.out.want hr).mono ?_;rintro e w ⟨rfl,K⟩;clear u o d a;obtain⟨u,o,d,a⟩:=K.out.cells)
    cases hs:dJ zg r.tail with
    |true=>
     go_wp2_with (go_at_call 99;refine(K.out.want hs).mono ?_;rintro e w ⟨rfl,K⟩;clear u o d a;obtain⟨u,o,d,a⟩:=K.out.cells);obtain⟨R,V⟩:=K.out.finV (r:=kF l) (⟨(cX l).t,v⟩) (Z (cX l).t) v (by unfold kF;rw[cj hk,then_ok,if_pos hb,y];dsimp only;rw[if_pos rfl,if_neg J,H,db hr,then_ok,then_ok,db hs,then_ok]) rfl rfl;simp only[World.setCells,aE]at R V;exact bodyPost_ret (v:=.agg #[.string (Z (cX l).t),.int i64 v]) (by simp[results,results98,go_sem,R]) rfl V
    |false=>
     go_wp2_with (go_at_call 99;refine(K.out.bad hs).mono ?_;unfold be;rintro e w ⟨rfl,z⟩);exact⟨rfl,kW (by unfold kF;rw[cj hk,then_ok,if_pos hb,y];dsimp only;rw[if_pos rfl,if_neg J,H,db hr,then_ok,then_ok,fH hs,cv]) z.out⟩
   |false=>
    go_wp2_with (go_at_call 99;refine(K.out.bad hr).mono ?_;unfold be;rintro e w ⟨rfl,z⟩);exact⟨rfl,kW (by unfold kF;rw[cj hk,then_ok,if_pos hb,y];dsimp only;rw[if_pos rfl,if_neg J,H,fH hr,cv,cv]) z.out⟩
 |false=>
  have am:=hb;go_wp2_with (go_at_call 97;refine(K.out.no am).mono ?_;rintro e w ⟨rfl,K⟩;clear am;clear u o d a;obtain⟨u,o,d,a⟩:=K.out.cells)
  cases hs:dJ zg l.tail with
  |true=>
   go_wp2_with (go_at_call 99;refine(K.out.want hs).mono ?_;rintro e w ⟨rfl,K⟩;clear u o d a;obtain⟨u,o,d,a⟩:=K.out.cells);obtain⟨R,V⟩:=K.out.finV (r:=kF l) (⟨(cX l).t,0⟩) (Z (cX l).t) 0 (by unfold kF;rw[cj hk,then_ok,if_neg (by simp[hb]),then_ok,db hs,then_ok]) rfl rfl;simp only[World.setCells,aE]at R V;exact bodyPost_ret (v:=.agg #[.string (Z (cX l).t),.int i64 0]) (by simp[results,results98,go_sem,R]) rfl V
  |false=>
   go_wp2_with (go_at_call 99;refine(K.out.bad hs).mono ?_;unfold be;rintro e w ⟨rfl,z⟩);exact⟨rfl,kW (by unfold kF;rw[cj hk,then_ok,if_neg (by simp[hb]),then_ok,fH hs,cv]) z.out⟩
def rA (w:World) (P:Nat->Prop) (v:Value) (ls:List (List UInt8)):Prop:=
 ∃A c,v=.slice A ls.length c/\(ls=[]\/ls.length<=c/\c<=maxLen/\ ∃b o,A=some ⟨b,o,none⟩/\P b/\b<w.heap.size/\ ∀i,(h:i<ls.length)->w.cell? ⟨b,o+i,none⟩=some (.string (Z ls[i])))
theorem rA.nil_ (a:World) (P:Nat->Prop):rA a P (.slice none 0 0) []:=⟨none,0,rfl,.inl rfl⟩
theorem rA.keep {w w':World} {P Q:Nat->Prop} {v:Value} {ls:List (List UInt8)} (d:rA w P v ls) (h:dM P w w') (z: ∀b,P b->b<w.heap.size->Q b):rA w' Q v ls:=by
 obtain⟨G,c,rfl,d⟩:=d;refine⟨G,c,rfl,d.imp id fun⟨F,A,b,u,ha,o,a,y⟩=>⟨F,A,b,u,ha,z b o a,aA a h.size,λi hi=>(h.cell _ o a).trans (y i hi)⟩⟩
theorem rA.mono {a:World} {P Q:Nat->Prop} {v:Value} {ls:List (List UInt8)} (h:rA a P v ls) (d: ∀b,P b->b<a.heap.size->Q b):rA a Q v ls:=h.keep ⟨ah _,λ_ _ _=>rfl⟩ d
def r8 (ls:List (List UInt8)):List Value:=ls.map λx=> .string (Z x)
def xR (w:World) (base:Nat) (v:Value) (ls:List (List UInt8)):Prop:=w.ownsRow base 9 1 v ls.length (r8 ls)
theorem xR.rd {a:World} {base:Nat} {v:Value} {ls:List (List UInt8)} (o:xR a base v ls):rA a (λb=>base<=b) v ls:=by
 rcases o.2 with⟨rfl,h⟩|⟨g,cap,cur,rfl,hb,hg,hnc,hcm,hcs,ht⟩
 ·have:ls=[]:=aX h;subst this;exact .nil_ _ _
 ·refine⟨_,cap,rfl,.inr ⟨hnc,hcm,g,0,rfl,hb,(Array.getElem?_eq_some_iff.1 hg).1,λi hi=> ?_⟩⟩;rw[aE,cell_of_row a g i cur 9 (0,0) hg];have d:(r8 ls)[i]? =some (.string (Z ls[i])):=by simp[r8,hi]
  rw[<-ht,ch]at d;rw[if_pos J]at d;simpa using d
theorem Kh:nL prog 58 9 1 16 (.string ⟨#[]⟩):=⟨underlying58,by kernel_rfl,by rfl,by decide⟩
theorem BY (base g d w:Nat) (nm:List UInt8) (l:List cB) (en:Int) (a:World) (C:Option Addr) (n al:Nat)
  (F:PA a g l en) (V:aO a w 122 #[.pointer (some ⟨g,0,none⟩)]) (R:aO a d 81 #[.string (Z nm),.slice C n al,.slice none 0 0])
  (ai:base<=a.heap.size) (az:g<d) (ay:g<w) (ae: ¬(cX l).k=1):
  Calls prog 102 #[.pointer (some ⟨d,0,none⟩),.pointer (some ⟨w,0,none⟩)] a λe w'=>e=be en l 3/\Fr base g d a w':=by
 have ap:=G F;have aq:=G V;have am:=G R;have ax:g<a.heap.size:=F.lt;have ad:d≠g:=J
 have ah:w≠g:=J
 clear F V R;go_enter func102,ntmps102;refine cS 5 0 [(3,λv=>v=.string ⟨#[]⟩,λ_ _=>False),(4,λv=> ∃H,v=.slice (some ⟨H,0,none⟩) 1 1,λ_ _=>True)] 3 (some g) mixed Qb
  ⟨λ_ _ _ u _=>u,λ_ _ _ u _=>u,trivial⟩ ⟨.inl rfl,.inr λ_ _ _ u _=>u,trivial⟩ ?_
 repeat (refine sx ?_ (λav y=> ?_) ?_;rotate_left;(focus have aB:=(am.out.grown (aJ y) (λe=>ad (I e))).cell;have aA:=(aq.out.grown (aJ y) (λe=>ah (I e))).cell;clear y;go_simp<;>with_reducible rfl);simp only[bE,bD,bC,bB,bA])
 refine dL _ _ Qf rfl ⟨_,rfl⟩ rfl (λz A o K X=> ?_) ?_
 ·clear o;have ag:=qN g l en z (ap.out.ext A.un) ae;have ao:=G A.un;clear A;go_simp;refine ag.mono ?_;unfold be;rintro e au ⟨rfl,aj⟩;intro aC af;exact⟨af,rfl,dE (an (ao.out.grownBy _) aj) ai (λk e=>by injection e with e;omega)⟩
 rintro _ rfl;simp only[bE,bD,bC,bB,bA];refine cU _ _ Qf rfl ⟨_,0,rfl⟩ Qe (λz y o K X=> ?_) ?_
 ·clear o;go_simp;exact X _ _ (aa z _) ⟨_,rfl⟩ trivial
 rintro _ ⟨H,rfl⟩;simp only[bE,bD,bC,bB,bA];intro ar aw o;exact(o _ (.tail _ (.head _))).elim
theorem Eo (base g u af:Nat) (nm:List UInt8) (l:List cB) (en:Int) (d:World) (X:List (List UInt8)) (C:Option Addr) (n ai:Nat)
  (am:PA d g l en) (aA:aO d af 122 #[.pointer (some ⟨g,0,none⟩)]) (w:aO d u 81 #[.string (Z nm),.slice C n ai,.slice none 0 0])
  (aD:xR d base (.slice C n ai) X) (az:X.length=n) (aQ:base<=d.heap.size) (bf:g<u) (bd:g<af) (ba:u<base) (bb:n<=100000) (al:(cX l).k=1):
  Calls prog 102 #[.pointer (some ⟨u,0,none⟩),.pointer (some ⟨af,0,none⟩)] d λe w'=>e=.returned (.tuple #[])/\Fr base g u d w'/\PA w' g l.tail en/\
   ∃aL cap',aO w' u 81 #[.string (Z nm),.slice aL (n+1) cap',.slice none 0 0]/\xR w' base (.slice aL (n+1) cap') (X++[(cX l).t]):=by
 have aY:=G am;have a3:=G aA;have aI:=G w;have aK:=G (show d.ownsRow base 9 1 (.slice C n ai) n (r8 X) by have:=aD;unfold xR at this;rwa [az]at this);have bc:g<d.heap.size:=am.lt;have ar:u≠g:=J
 have aP:af≠g:=J
 clear am aA w aD;go_enter func102,ntmps102;refine cS 5 0 [(3,λv=>v=.string (Z (cX l).t),λv aj=>PA aj g l.tail en),(4,λv=> ∃a,v=.slice (some ⟨a,0,none⟩) 1 1,λv aj=> ∀a,v=.slice (some ⟨a,0,none⟩) 1 1->d.heap.size<=a/\aO aj a 9 #[.string (Z (cX l).t)])] 3 (some g) mixed Qb
  ⟨λ_ _ _ o w=>o.ext w,λ_ _ _ o w a e=>⟨(o a e).1,(o a e).2.ext w⟩,trivial⟩ ⟨.inl rfl,.inr λ_ _ _ o w a e=>⟨(o a e).1,(o a e).2.grown w (λaH=>by have:=(o a e).1;injection aH with aH;omega)⟩,trivial⟩ ?_
 repeat (refine sx ?_ (λa5 A=> ?_) ?_;rotate_left;(focus have bi:=(aI.out.grown (aJ A) (λe=>ar (I e))).cell;have bh:=(a3.out.grown (aJ A) (λe=>aP (I e))).cell;clear A;go_simp<;>with_reducible rfl);simp only[bE,bD,bC,bB,bA])
 refine dL _ _ Qf rfl ⟨_,rfl⟩ rfl (λad aB z K an=> ?_) ?_
 ·clear z;have aN:=j8 g l en ad (aY.out.ext aB.un) al;clear aB;go_simp;refine aN.mono ?_;rintro e a4 ⟨rfl,aT,aS⟩;exact an _ _ aS rfl aT
 rintro _ rfl;simp only[bE,bD,bC,bB,bA];refine cU _ _ Qf rfl ⟨_,0,rfl⟩ Qe (λad A z K an=> ?_) ?_
 ·have aM:=(aJ A).size;clear z A;go_simp;exact an _ _ (aa ad _) ⟨_,rfl⟩ (λa e=>by injection e with e;injection e with e;injection e with e;subst e;exact⟨aM,aq ad _ _⟩)
 rintro _ ⟨a,rfl⟩;simp only[bE,bD,bC,bB,bA];intro ap y z;obtain⟨be,aF⟩:=z _ (.head _) a rfl;have aG:=z _ (.tail _ (.head _));clear z;simp only[ae,aw];have y:=aJ y;have a7:=y.size;have au:=World.ownsRow.lt aK.out;have R:=λk al=>(au k al).1
 have aC:=aK.out.kept y (by
  cases ho:Value.ownBlock (.slice C n ai)with
  |none=>exact .inl rfl
  |some k=>exact .inr λe=>by have:=R k ho;injection e with e;omega)
 have a2:=G (dE y aQ (λk e=>by injection e with e;omega):Fr base g u d ap);have aV:=G (aI.out.grown y (λe=>ar (I e)));have aX:=G (show PA ap g l.tail en from aG);clear y aG au;refine fj Kh rfl _ _ rfl base _ n (r8 X) rfl aC a [.string (Z (cX l).t)] rfl aF rfl Qk J Qd J ?_;intro F cap' ao ax V av;have ag:=aV.out.grown V (λe=>by have:=R _ e.symm;omega);have ay:=aX.out.grown V (λk e=>by have:=R k e;omega);have aE:=a2.out.trans (dE V J (λk e=> .inr (.inr (R k e))));have a9:=ag.cell;have a8:=ag.frozen;have ah:=fK ao u 1 (.slice (some ⟨F,0,none⟩) (n+1) cap');have a6:=V.size;have aR:base<=ao.heap.size:=J
 have bg:base<=F:=by
  rcases av with o|o
  ·exact R F o.symm
  ·omega
 have aU:=G (ag.set 1 (.slice (some ⟨F,0,none⟩) (n+1) cap'));have aW:=G (ay.grown ah (λk e=>by injection e with e;omega));have a1:=G (aE.trans (dE ah aR (λk e=> .inr (.inl (I e).symm))));have aZ:=G (World.ownsRow.kept ax ah (.inr (λe=>by have e:F=u:=I e;omega)));clear ax V av ah aE ay ag aC aF;go_wp2_with fail
 go_end0
 refine⟨rfl,a1.out,aW.out,some ⟨F,0,none⟩,cap',by simpa using aU.out,?_⟩;have:=aZ.out;unfold xR;rw[H,az];simpa[r8]using this
def J4 (base g pf:Nat) (nm:List UInt8) (en:Int) (w:World) (r:PR (List (List UInt8))) (e:Ending) (w':World):Prop:=
 Fr base g pf w w'/\match r with
 | .ok (a,q)=>e=.returned (.tuple #[])/\PA w' g q en/\ ∃C n cap,aO w' pf 81 #[.string (Z nm),.slice C n cap,.slice none 0 0]/\rA w' (λb=>base<=b) (.slice C n cap) a
 | .error (q,n)=>e=be en q n
theorem ny (f:Nat) (base g w V:Nat) (nm:List UInt8) (l:List cB) (en:Int) (A:World)
  (ar:PA A g l en) (ah:aO A V 122 #[.pointer (some ⟨g,0,none⟩)]) (aC:aO A w 81 #[.string (Z nm),.slice none 0 0,.slice none 0 0])
  (aH:base<=A.heap.size) (aF:g<w) (aE:g<V) (aZ:V≠w) (aT:w<base) (aU:V<base) (aV:l.length+1<=f) (a2:l.length<=100000):
  Calls prog 101 #[.pointer (some ⟨g,0,none⟩),.func (Fn.func 102) #[] #[.pointer (some ⟨w,0,none⟩),.pointer (some ⟨V,0,none⟩)]] A (J4 base g w nm en A (gv f l)):=by
 have a5:=G ar;have aX:=G ah;have aK:=G aC;have R:=G (cV g l en mA A ar);clear ar ah aC
 cases hrp:dJ mA l with
 |true=>
  rw[hrp]at R;simp only[if_true]at R;have ay:=G (show gv f l=.ok ([],l.tail)from by unfold gv;rw[if_pos hrp]);go_enter func101,ntmps101;go_wp2_with (go_at_call 97;refine R.out.mono ?_;rintro e aP ⟨rfl,d,a⟩;have aA:=G d;have am:=G a;clear d a R)
  go_end0
  rw[ay.out];exact⟨dE am.out aH (λk e=>by injection e with e;omega),rfl,aA.out,_,_,_,aK.out.grown am.out (λe=>by injection e with e;omega),.nil_ _ _⟩
 |false=>
  rw[hrp]at R;simp only[aR,if_false]at R;have ay:=G (show gv f l=gh f [] l from by unfold gv;rw[if_neg (by rw[hrp];simp)]);go_enter func101,ntmps101;go_wp2_with (go_at_call 97;refine R.out.mono ?_;rintro e aP ⟨rfl,d,a⟩;have aA:=G d;have am:=G a;clear d a R)
  go_loopw [] (λwr=> ∃(k:Nat) (o:List (List UInt8)) (r:List cB) (C:Option Addr) (n ai:Nat),r.length+1<=k/\o.length=n/\n+r.length<=l.length/\Hid (gh k o r=gv f l)/\Hid (PA wr g r en)/\Hid (aO wr w 81 #[.string (Z nm),.slice C n ai,.slice none 0 0])/\
   Hid (xR wr base (.slice C n ai) o)/\Hid (Fr base g w A wr)) (λwr=>tokN g wr)
  case atStart=>exact⟨f,[],l,none,0,0,aV,rfl,by omega,G ay.out.symm,aA,G (aK.out.grown am.out (λe=>by injection e with e;omega)),G (World.ownsRow_nil _ _ _ _),G (dE am.out aH (λk e=>by injection e with e;omega))⟩
  case round=>
   obtain⟨k,o,r,C,n,ai,a4,aD,a1,ax,az,aJ,aW,af⟩:=hrel;obtain⟨k,rfl⟩: ∃aQ,k=aQ+1:=⟨k-1,by omega⟩
   have aM:=G (af.out.blk aX.out aU J J);have aG:base<=wr.heap.size:=by have:=af.out.size;omega
   have av:=G (show gh (k+1) o r=(jP r).then λx q=>if dJ mA q then .ok (o++[x],q.tail)else(cJ Bv q).then λ_ q=>gh k (o++[x]) q from by rw[gh]);by_cases hkn:(cX r).k=1
   rotate_left
   ·have I:=G (show gv f l=.error (r,3)from by rw[<-ax.out,av.out,l8 hkn];rfl);have z:=G (BY base g w V nm r en wr C n ai az.out aM.out aJ.out aG aF aE hkn);unfold be at z;go_wp2_with (go_at_call 102;refine z.out.mono ?_;rintro e ae ⟨rfl,u⟩;have y:=G (af.out.trans u);clear u z);exact⟨rfl,by rw[I.out];exact⟨y.out,rfl⟩⟩
   ·have a3:=jv (l:=r) (by rw[hkn];decide);have z:=G (Eo base g w V nm r en wr o C n ai az.out aM.out aJ.out aW.out aD aG aF aE aT J hkn);have aw:=G (show gv f l=if dJ mA r.tail then .ok (o++[(cX r).t],r.tail.tail)else(cJ Bv r.tail).then λ_ q=>gh k (o++[(cX r).t]) q from by rw[<-ax.out,av.out,cj hkn];rfl);clear ax av
    cases hr2:dJ mA r.tail with
    |true=>
     have I:=G (show gv f l=.ok (o++[(cX r).t],r.tail.tail)from by rw[aw.out,if_pos hr2])
     go_wp2_with (first
      |(go_at_call 102;refine z.out.mono ?_;rintro e ae ⟨rfl,u,F,aq,ao,X,aa⟩;have y:=G (af.out.trans u);have H:=G F;have au:=G X;have ap:=G aa;clear u z F X aa)
      |(go_at_call 97;refine(cV g r.tail en mA _ H.out).mono ?_;rw[hr2];simp only[if_true];rintro e aB ⟨rfl,d,a⟩;have aj:=G d;have ad:=G a;clear d a))
     go_end0
     rw[I.out];have ag:base<=ae.heap.size:=by have:=y.out.size;omega
     exact⟨y.out.trans (dE ad.out ag (λk e=>by injection e with e;omega)),rfl,aj.out,_,_,_,au.out.grown ad.out (λe=>by injection e with e;omega),ap.out.rd.keep (.of_grown ad.out λb ah e=>by injection e with e;omega) (λ_ ah _=>ah)⟩
    |false=>
     cases hcm:dJ Bv r.tail with
     |false=>
      have I:=G (show gv f l=.error (r.tail,3)from by rw[aw.out,if_neg (by rw[hr2];simp),fH hcm];rfl)
      go_wp2_with (first
       |(go_at_call 102;refine z.out.mono ?_;rintro e ae ⟨rfl,u,F,aq,ao,X,aa⟩;have y:=G (af.out.trans u);have H:=G F;clear u z F X aa)
       |(go_at_call 97;refine(cV g r.tail en mA _ H.out).mono ?_;rw[hr2];simp only[aR,if_false];rintro e aB ⟨rfl,d,a⟩;have aj:=G d;have ad:=G a;clear d a H)
       |(go_at_call 99;refine(iq g r.tail en Bv _ aj.out hcm).mono ?_;unfold be;rintro e aN ⟨rfl,aI⟩;have al:=G (an ad.out aI);clear aI))
      have ag:base<=ae.heap.size:=by have:=y.out.size;omega
      exact⟨rfl,by rw[I.out];exact⟨y.out.trans (dE al.out ag (λk e=>by injection e with e;omega)),rfl⟩⟩
     |true=>
      have I:=G (show gh k (o++[(cX r).t]) r.tail.tail=gv f l from by rw[aw.out,if_neg (by rw[hr2];simp),db hcm];rfl);have aY:=bO hcm
      go_wp2_with (first
       |(go_at_call 102;refine z.out.mono ?_;rintro e ae ⟨rfl,u,F,aq,ao,X,aa⟩;have y:=G (af.out.trans u);have H:=G F;have au:=G X;have ap:=G aa;clear u z F X aa)
       |(go_at_call 97;refine(cV g r.tail en mA _ H.out).mono ?_;rw[hr2];simp only[aR,if_false];rintro e aB ⟨rfl,d,a⟩;have aj:=G d;have ad:=G a;clear d a H)
       |(go_at_call 99;refine(fl g r.tail en Bv _ aj.out hcm).mono ?_;rintro e aN ⟨rfl,d,a⟩;have aL:=G d;have al:=G (an ad.out a);clear d a))
      have ag:base<=ae.heap.size:=by have:=y.out.size;omega
      have aS:=World.ownsRow.lt ap.out;go_roundw
      case rel=>exact⟨k,o++[(cX r).t],r.tail.tail,aq,n+1,ao,by omega,by simp[aD],by omega,I,aL,G (au.out.grown al.out (λe=>by injection e with e;omega)),G (World.ownsRow.kept ap.out al.out (by
       cases ho:Value.ownBlock (.slice aq (n+1) ao)with
       |none=>exact .inl rfl
       |some k=>exact .inr λe=>by have:=(aS k ho).1;injection e with e;omega)),G (y.out.trans (dE al.out ag (λk e=>by injection e with e;omega)))⟩
      case measure=>rw[az.out.tokN,aL.out.tokN];omega
structure FV where
 c:Fc
 p:Value
 b:Value
def FY (p:FV):List Value:=[.string (Z p.c.nm),p.p,p.b]
def lA (l:List FV):List Value:=l.flatMap FY
def Fz (v:Vr):List Value:=[.string (Z v.nm),.int i64 v.sz]
def lw (l:List Vr):List Value:=l.flatMap Fz
theorem zJ (a b:List FV):lA (a++b)=lA a++lA b:=by simp[lA]
theorem yL (a b:List Vr):lw (a++b)=lw a++lw b:=by simp[lw]
theorem mI: ∀(l:List FV) (i:Nat) (a:i<l.length) (k:Nat),k<3->(lA l)[i*3+k]? =(FY l[i])[k]?
 | [],i,a,k,hk=>by simp at a
 |p::l,0,a,k,hk=>by
  simp only[lA,bJ,aY,aE,aF];rw[br (by simp[FY];omega)]
 |p::l,i+1,a,k,hk=>by
  have:=mI l i (by simpa using a) k hk;simp only[lA,bJ,aP]at this⊢;rw[bH (by simp[FY];omega),<-this]
  congr 1
  simp[FY];omega
theorem oV: ∀(l:List Vr) (i:Nat) (a:i<l.length) (k:Nat),k<2->(lw l)[i*2+k]? =(Fz l[i])[k]?
 | [],i,a,k,hk=>by simp at a
 |p::l,0,a,k,hk=>by
  simp only[lw,bJ,aY,aE,aF];rw[br (by simp[Fz];omega)]
 |p::l,i+1,a,k,hk=>by
  have:=oV l i (by simpa using a) k hk;simp only[lw,bJ,aP]at this⊢;rw[bH (by simp[Fz];omega),<-this]
  congr 1
  simp[Fz];omega
def FV.ok (w:World) (P:Nat->Prop) (p:FV):Prop:=rA w P p.p p.c.ps/\eq w P p.b p.c.body
theorem FV.ok.keep {w w':World} {P Q:Nat->Prop} {p:FV} (h:p.ok w P) (a:dM P w w') (d: ∀b,P b->b<w.heap.size->Q b):p.ok w' Q:=⟨h.1.keep a d,h.2.keep a d⟩
def nM (w:World) (P:Nat->Prop) (v:Value) (vs:List Vr):Prop:=
 ∃A c,v=.slice A vs.length c/\(vs=[]\/vs.length<=c/\c<=maxLen/\ ∃b o,A=some ⟨b,o,none⟩/\P b/\b<w.heap.size/\ ∀i,(h:i<vs.length)->w.cell? ⟨b,o+i*2,none⟩=some (.string (Z vs[i].nm))/\w.cell? ⟨b,o+i*2+1,none⟩=some (.int i64 vs[i].sz))
theorem nM.keep {w w':World} {P Q:Nat->Prop} {v:Value} {u:List Vr} (o:nM w P v u) (d:dM P w w') (A: ∀b,P b->b<w.heap.size->Q b):nM w' Q v u:=by
 obtain⟨R,c,rfl,o⟩:=o;exact⟨R,c,rfl,o.imp id fun⟨G,F,b,z,ha,h,a,y⟩=>⟨G,F,b,z,ha,A b h a,aA a d.size,λi hi=>⟨(d.cell _ h a).trans (y i hi).1,(d.cell _ h a).trans (y i hi).2⟩⟩⟩
def nP (w:World) (P:Nat->Prop) (v:Value) (fs:List Fc):Prop:=
 ∃A c,v=.slice A fs.length c/\(fs=[]\/fs.length<=c/\c<=maxLen/\ ∃b o,A=some ⟨b,o,none⟩/\P b/\b<w.heap.size/\ ∃pv bv:Nat->Value,∀i,(h:i<fs.length)->w.cell? ⟨b,o+i*3,none⟩=some (.string (Z fs[i].nm))/\w.cell? ⟨b,o+i*3+1,none⟩=some (pv i)/\w.cell? ⟨b,o+i*3+2,none⟩=some (bv i)/\
  rA w P (pv i) fs[i].ps/\eq w P (bv i) fs[i].body)
theorem nP.keep {w w':World} {P Q:Nat->Prop} {v:Value} {y:List Fc} (u:nP w P v y) (a:dM P w w') (o: ∀b,P b->b<w.heap.size->Q b):nP w' Q v y:=by
 obtain⟨X,c,rfl,u⟩:=u
 exact⟨X,c,rfl,u.imp id fun⟨R,G,b,A,ha,h,d,z,V,F⟩=>⟨R,G,b,A,ha,o b h d,aA d a.size,z,V,λi hi=>let⟨q0,q1,q2,q3,q4⟩:=F i hi
  ⟨(a.cell _ h d).trans q0,(a.cell _ h d).trans q1,(a.cell _ h d).trans q2,q3.keep a o,q4.keep a o⟩⟩⟩
def lM (w:World) (base:Nat) (vv fv:Value) (vs:List Vr) (fs:List FV):Prop:=
 w.ownsRow base 76 2 vv vs.length (lw vs)/\w.ownsRow base 81 3 fv fs.length (lA fs)/\(∀k,vv.ownBlock=some k->fv.ownBlock≠some k)/\ ∀p,p∈fs->p.ok w (λb=>base<=b/\some b≠vv.ownBlock/\some b≠fv.ownBlock)
theorem lM.nil_ (a:World) (base:Nat):lM a base (.slice none 0 0) (.slice none 0 0) [] []:=⟨World.ownsRow_nil _ _ _ _,World.ownsRow_nil _ _ _ _,λk h=>(by cases h),λp d=>(by cases d)⟩
theorem n_ {a w':World} {base:Nat} {e:TypeId} {d n:Nat} {v:Value} {xs:List Value} (h:a.ownsRow base e d v n xs) (o: ∀b,base<=b->b<a.heap.size->v.ownBlock=some b->w'.heap[b]? =a.heap[b]?):w'.ownsRow base e d v n xs:=by
 refine⟨h.1,?_⟩;rcases h.2 with u|⟨g,cap,cur,hv,hb,hg,hr⟩
 ·exact .inl u
 ·exact .inr ⟨g,cap,cur,hv,hb,(o g hb (Array.getElem?_eq_some_iff.1 hg).1 (by rw[hv];rfl)).trans hg,hr⟩
theorem lM.keepW {a w':World} {base:Nat} {y A:Value} {z:List Vr} {F:List FV} (d:lM a base y A z F) (G:a.heap.size<=w'.heap.size) (h: ∀b,base<=b->b<a.heap.size->w'.heap[b]? =a.heap[b]?):lM w' base y A z F:=
 ⟨n_ d.1 (λb w u _=>h b w u),n_ d.2.1 (λb w u _=>h b w u),d.2.2.1,λp R=>(d.2.2.2 p R).keep ⟨G,λb o V=>h b o.1 V⟩ (λb o _=>o)⟩
theorem lM.grown {a w':World} {base:Nat} {d u:Value} {h:List Vr} {w:List FV} {row:Option Nat} (A:lM a base d u h w) (o:a.grownBy w' row) (y: ∀k,row=some k->k<base):lM w' base d u h w:=
 A.keepW o.size λb F z=>o.block b z (λe=>by have:=y b e.symm;omega)
theorem lM.snocV {u w':World} {base:Nat} {w G:Value} {o:List Vr} {R:List FV} {v:Vr} {d n V:Nat} (ah:lM u base w G o R) (af:o.length=n) (ad:w'.ownsRow base 76 2 (.slice (some ⟨d,0,none⟩) (n+1) V) (n+1) (lw o++Fz v))
  (z:u.grownBy w' w.ownBlock) (a:some d=w.ownBlock\/d=u.heap.size):lM w' base (.slice (some ⟨d,0,none⟩) (n+1) V) G (o++[v]) R:=by
 subst af;obtain⟨aj,F,A,ag⟩:=ah;have ae:=World.ownsRow.lt F;refine⟨by rw[H,yL];simpa[lw]using ad,n_ F (λb _ h X=>z.block b h (λe=>A b e.symm X)),λk y e=> ?_,λp aa=>(ag p aa).keep (.of_grown z λb h=>h.2.1) λb h ai=>⟨h.1,λe=> ?_,h.2.2⟩⟩
 ·have y:d=k:=I y;subst y;rcases a with a|a
  ·exact A d a.symm e
  ·have:=(ae d e).2;omega
 ·have e:b=d:=I e;subst e;rcases a with a|a
  ·exact h.2.1 a
  ·omega
theorem lM.snocF {u w':World} {base:Nat} {w y:Value} {G:List Vr} {z:List FV} {p:FV} {d n F:Nat} (aj:lM u base w y G z) (ae:p.ok u (λb=>base<=b/\some b≠w.ownBlock/\some b≠y.ownBlock)) (ah:z.length=n) (af:w'.ownsRow base 81 3 (.slice (some ⟨d,0,none⟩) (n+1) F) (n+1) (lA z++FY p))
  (A:u.grownBy w' y.ownBlock) (h:some d=y.ownBlock\/d=u.heap.size):lM w' base w (.slice (some ⟨d,0,none⟩) (n+1) F) G (z++[p]):=by
 subst ah;obtain⟨aa,al,X,ai⟩:=aj;have ag:=World.ownsRow.lt aa
 have R: ∀b,(base<=b/\some b≠w.ownBlock/\some b≠y.ownBlock)->b<u.heap.size->(base<=b/\some b≠w.ownBlock/\some b≠Value.ownBlock (.slice (some ⟨d,0,none⟩) (z.length+1) F)):=λb a Z=>⟨a.1,a.2.1,λe=>by
  have e:b=d:=I e;subst e;rcases h with h|h
  ·exact a.2.2 h
  ·omega⟩
 refine⟨n_ aa (λb _ a ad=>A.block b a (λe=>X b ad e.symm)),by rw[H,zJ];simpa[lA]using af,λk V e=> ?_,λq o=> ?_⟩
 ·have e:d=k:=I e;subst e;rcases h with h|h
  ·exact X d V h.symm
  ·have:=(ag d V).2;omega
 ·rcases List.mem_append.1 o with o|o
  ·exact(ai q o).keep (.of_grown A λb a=>a.2.2) R
  ·rw[bR]at o;subst o;exact ae.keep (.of_grown A λb a=>a.2.2) R
theorem lM.rd {h:World} {base:Nat} {A V:Value} {u:List Vr} {a:List FV} (G:lM h base A V u a):nM h (λb=>base<=b) A u/\nP h (λb=>base<=b) V (a.map (·.c)):=by
 obtain⟨I,aa,_,X⟩:=G;constructor
 ·rcases I.2 with⟨rfl,F⟩|⟨g,cap,cur,rfl,z,hg,hnc,hcm,hcs,ht⟩
  ·have:u=[]:=aX F;subst this;exact⟨none,0,rfl,.inl rfl⟩
  ·have w: ∀j o,(lw u)[j]? =some o->h.cell? ⟨g,j,none⟩=some o:=λj o d=>by
    rw[cell_of_row h g j cur 76 (0,0) hg];rw[<-ht,ch]at d;split at d
    ·simpa using d
    ·cases d
   exact⟨_,cap,rfl,.inr ⟨hnc,hcm,g,0,rfl,z,(Array.getElem?_eq_some_iff.1 hg).1,λi hi=>by
    rw[aE]
    exact⟨w _ _ (oV u i hi 0 J),w _ _ (oV u i hi 1 J)⟩⟩⟩
 ·rcases aa.2 with⟨rfl,F⟩|⟨g,cap,cur,rfl,z,hg,hnc,hcm,hcs,ht⟩
  ·have:a=[]:=aX F;subst this;exact⟨none,0,rfl,.inl rfl⟩
  ·have w: ∀j o,(lA a)[j]? =some o->h.cell? ⟨g,j,none⟩=some o:=λj o d=>by
    rw[cell_of_row h g j cur 81 (0,0) hg];rw[<-ht,ch]at d;split at d
    ·simpa using d
    ·cases d
   refine⟨some ⟨g,0,none⟩,cap,by simp,.inr ⟨by simpa using hnc,hcm,g,0,rfl,z,(Array.getElem?_eq_some_iff.1 hg).1,λi=>if G:i<a.length then a[i].p else .slice none 0 0,λi=>if G:i<a.length then a[i].b else .slice none 0 0,λi hi=> ?_⟩⟩;have y:i<a.length:=by simpa using hi
   have e0:(a.map (·.c))[i]=a[i].c:=Qe
   have R:=(X a[i] (ax y)).keep (P:=λb=>base<=b/\some b≠A.ownBlock/\some b≠Value.ownBlock (.slice (some ⟨g,0,none⟩) a.length cap)) (w':=h) ⟨ah _,λ_ _ _=>rfl⟩ (Q:=λb=>base<=b) (λb z _=>z.1);rw[e0];simp only[aE,dif_pos y];exact⟨w _ _ (mI a i y 0 J),w _ _ (mI a i y 1 J),w _ _ (mI a i y 2 J),R.1,R.2⟩
theorem Kf:nL prog 28 76 2 24 (.agg #[.string ⟨#[]⟩,.int i64 0]):=⟨underlying28,by kernel_rfl,by rfl,by decide⟩
theorem Kj:nL prog 29 81 3 64 (.agg #[.string ⟨#[]⟩,.slice none 0 0,.slice none 0 0]):=⟨underlying29,by kernel_rfl,by rfl,by decide⟩
def He (g:Nat) (en:Int) (w:World) (r:PR Pg) (e:Ending) (w':World):Prop:=
 w.grownBy w' (some g)/\match r with
 | .ok (p,q)=> ∃A n c B m d,e=.returned (.agg #[.slice A n c,.slice B m d])/\nM w' (λb=>w.heap.size<=b) (.slice A n c) p.vs/\nP w' (λb=>w.heap.size<=b) (.slice B m d) p.fs
 | .error (q,n)=>e=be en q n
theorem mB {g:Nat} {en:Int} {a w':World} {r:PR Pg} {q:List cB} {n:Int} (d:r=.error (q,n)) (h:a.grownBy w' (some g)):He g en a r (be en q n) w':=by
 subst d;exact⟨h,rfl⟩
end
end Go.Proofs.YtoedmpgicdekmaaGreatDoor
