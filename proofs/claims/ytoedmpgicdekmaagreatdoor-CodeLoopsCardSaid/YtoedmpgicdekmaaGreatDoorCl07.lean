/- Parts of the proof. -/
import Derived.Test.YtoedmpgicdekmaaGreatDoorCl00
import Derived.Test.YtoedmpgicdekmaaGreatDoorCl06
import Derived.LoopN
set_option maxRecDepth 100000
set_option maxHeartbeats 8000000
set_option linter.unusedVariables false
set_option linter.unusedSimpArgs false
set_option linter.unusedSectionVars false
namespace Go.Proofs.YtoedmpgicdekmaaGreatDoor
open Go.Proofs.Tryz
section
open Go.RowKit
theorem yj {w:World} {g:Nat} {l:List co} {en:Int} (h:PA w g l en):SK w g en w.heap.size #[.int .i64 0, .string ⟨#[]⟩, .slice none 0 0, .slice none 0 0, .slice none 0 0] (w.heap.size+1) #[.int .i64 0, .string ⟨#[]⟩, .slice none 0 0, .slice none 0 0, .slice none 0 0] 147 (λ_=>True) l ((w.alloc (.cells #[.int .i64 0, .string ⟨#[]⟩, .slice none 0 0, .slice none 0 0, .slice none 0 0] 147)).alloc (.cells #[.int .i64 0, .string ⟨#[]⟩, .slice none 0 0, .slice none 0 0, .slice none 0 0] 147)):=by
 have a:=aq (w.alloc (.cells #[.int .i64 0, .string ⟨#[]⟩, .slice none 0 0, .slice none 0 0, .slice none 0 0] 147)) 147 #[.int .i64 0, .string ⟨#[]⟩, .slice none 0 0, .slice none 0 0, .slice none 0 0];rw[World.size_alloc]at a;have d:=(aa w (.cells #[.int .i64 0, .string ⟨#[]⟩, .slice none 0 0, .slice none 0 0, .slice none 0 0] 147)).alloc' (.cells #[.int .i64 0, .string ⟨#[]⟩, .slice none 0 0, .slice none 0 0, .slice none 0 0] 147);have o:=h.lt;exact⟨h.ext d,d.grownBy _,(aq w _ _).alloc _,a,by omega,trivial,λ_ _ _ _ _ _=>trivial⟩
section
variable {w W W':World} {g pb sb:Nat} {en:Int} {pc sc:Array Value} {ty:TypeId} {X:World->Prop} {l l':List co}
theorem SK.simp (d:SK w g en pb pc sb sc ty X l W) {f:Nat} (M:fB f) (J:jF f) (H:4*l.length+2<=f) {s:St} {q:List co} (y:gQ f l= .ok (s,q)):Calls prog 205 #[.pointer (some ⟨g,0,none⟩)] W λe W'=>
  ∃h n c B m a C i j,e= .returned (.agg #[.int .i64 s.k, .string (ak s.nm), .slice h n c, .slice B m a, .slice C i j])/\Hid (SK w g en pb pc sb sc ty (λz=>X z/\SV.ok z (λb=>sb<b) ⟨s, .slice h n c, .slice B m a, .slice C i j⟩) q W'):=by
 have A:=ua f M J l en W g d.pa H;rw[y]at A;refine A.mono λe W' F=> ?_;obtain⟨K,h,n,c,B,m,a,C,i,j,rfl,u,I⟩:=F;have R:=d.sv.lt;exact⟨h,n,c,B,m,a,C,i,j,rfl,G ((d.step I K).with (u.keep ⟨ah _,λ_ _ _=>rfl⟩ (λb o _=>by omega)) λk V z Z u y=>y.keep (.of_grown u λb o e=>by have:=d.nn;injection e with e;omega) (λb o _=>o))⟩
theorem SK.serr (h:SK w g en pb pc sb sc ty X l W) {f:Nat} (y:fB f) (u:jF f) (o:4*l.length+2<=f) {q:List co} {n:Int} (z:gQ f l= .error (q,n)):Calls prog 205 #[.pointer (some ⟨g,0,none⟩)] W λe W'=>e=a_ en q n/\Hid (w.grownBy W' (some g)):=by
 have d:=ua f y u l en W g h.pa o;rw[z]at d;exact d.mono λe W' a=>⟨a.2,G (am h.gr a.1)⟩
end
theorem yi (f:Nat) (V:fB f) (an:jF f) (ap:mZ f) (ao:G2 f):Cz (f+1):=by
 intro l en w g J aC;have aB:=J.lt;have a:=G (yj J);have av:w.heap.size≠g:=Qa
 have au:w.heap.size+1≠g:=Qa
 have aA:g≠w.heap.size:=Qa
 have az:g≠w.heap.size+1:=Qa
 obtain⟨y,u,o,d⟩:=a.out.cells;clear J;go_enter func160,ntmps160
 cases h1:dB Hs l with
 |true=>
  have ai:=bK h1;have al:4*l.tail.length+3<=f:=Qa
  go_wp2_with (go_at_call 97;refine(a.out.yes h1).mono ?_;rintro e z ⟨rfl,a⟩;clear y u o d;obtain⟨y,u,o,d⟩:=a.out.cells)
  cases hc:pN f l.tail with
  |error p=>
   obtain⟨q,ag⟩:=p;go_wp2_with (go_at_call 203;refine(a.out.ierr ao al hc).mono ?_;unfold a_;rintro e z ⟨rfl,A⟩);exact⟨rfl,dI (by rw[d7,if_pos h1,hc]) A.out⟩
  |ok p=>
   obtain⟨s,q⟩:=p;go_wp2_with (go_at_call 203;refine(a.out.if ao al hc).mono ?_;rintro e z ⟨af,ab,c1,ae,aa,c2,ad,Z,ac,rfl,a⟩;clear y u o d;obtain⟨y,u,o,d⟩:=a.out.cells);obtain⟨F,H⟩:=a.out.fin (r:=d7 (f+1) l) (s) s.k (ak s.nm) af ab c1 ae aa c2 ad Z ac (by rw[d7,if_pos h1,hc]) rfl rfl (λJ=>J.2.keep ⟨ah _,λ_ _ _=>rfl⟩ (λb M _=>by omega));simp only[World.setCells,aE,Nat.reduceAdd]at F H;exact bodyPost_ret (v:= .agg #[.int .i64 s.k, .string (ak s.nm), .slice af ab c1, .slice ae aa c2, .slice ad Z ac]) (by simp[results,results160,go_sem,F]) rfl H
 |false=>
  have I:=h1;go_wp2_with (go_at_call 97;refine(a.out.no I).mono ?_;rintro e z ⟨rfl,a⟩;clear I;clear y u o d;obtain⟨y,u,o,d⟩:=a.out.cells)
  cases h2:dB v_ l with
  |true=>
   have ai:=bK h2;have R:4*l.tail.length+2<=f:=Qa
   go_wp2_with (go_at_call 97;refine(a.out.yes h2).mono ?_;rintro e z ⟨rfl,a⟩;clear y u o d;obtain⟨y,u,o,d⟩:=a.out.cells)
   cases hx:cv f 1 l.tail with
   |error p=>
    obtain⟨q,ag⟩:=p;go_wp2_with (go_at_call 204;refine(a.out.xerr V R hx).mono ?_;unfold a_;rintro e z ⟨rfl,A⟩);exact⟨rfl,dI (by rw[d7,if_neg (by simp[h1]),if_pos h2,hx,ci]) A.out⟩
   |ok p=>
    obtain⟨x,r⟩:=p;go_wp2_with (go_at_call 204;refine(a.out.expr V R hx).mono ?_;rintro e K ⟨ar,n,c,rfl,a⟩;clear y u o d;obtain⟨y,u,o,d⟩:=a.out.cells);have aw:=(jR f).1 _ _ _ _ hx;have am:4*r.length+1<=f:=Qa
    cases M:d9 f r with
    |error p=>
     obtain⟨q,ag⟩:=p;go_wp2_with (go_at_call 103;refine(a.out.berr ap am M).mono ?_;unfold a_;rintro e z ⟨rfl,A⟩);exact⟨rfl,dI (by rw[d7,if_neg (by simp[h1]),if_pos h2,hx,then_ok,M,ci]) A.out⟩
    |ok p=>
     obtain⟨b,q⟩:=p;go_wp2_with (go_at_call 103;refine(a.out.block ap am M).mono ?_;rintro e z ⟨B,m,aq,rfl,a⟩;clear y u o d;obtain⟨y,u,o,d⟩:=a.out.cells);obtain⟨F,H⟩:=a.out.fin (r:=d7 (f+1) l) (.mk 5 [] [x] b []) 5 ⟨#[]⟩ (some ⟨K.heap.size,0,none⟩) 1 1 B m aq none 0 0 (by rw[d7,if_neg (by simp[h1]),if_pos h2,hx,then_ok,M,then_ok]) rfl rfl (λJ=>⟨J.1.2.mono (λb M _=>by omega),J.2.mono (λb M _=>by omega), .nil _ _⟩);simp only[World.setCells,aE,Nat.reduceAdd]at F H;exact bodyPost_ret (v:= .agg #[.int .i64 5, .string ⟨#[]⟩, .slice (some ⟨K.heap.size,0,none⟩) 1 1, .slice B m aq, .slice none 0 0]) (by simp[results,results160,go_sem,F]) rfl H
  |false=>
   have I:=h2;go_wp2_with (go_at_call 97;refine(a.out.no I).mono ?_;rintro e z ⟨rfl,a⟩;clear I;clear y u o d;obtain⟨y,u,o,d⟩:=a.out.cells)
   cases h3:dB nj l with
   |true=>
    have ai:=bK h3;go_wp2_with (go_at_call 97;refine(a.out.yes h3).mono ?_;rintro e z ⟨rfl,a⟩;clear y u o d;obtain⟨y,u,o,d⟩:=a.out.cells);by_cases hk:(cV l.tail).k=1
    rotate_left
    ·go_wp2_with (go_at_call 100;refine(a.out.noname hk).mono ?_;unfold a_;rintro e z ⟨rfl,A⟩);exact⟨rfl,dI (by rw[d7,if_neg (by simp[h1]),if_neg (by simp[h2]),if_pos h3,lK hk,ci]) A.out⟩
    have ax:=jb (l:=l.tail) (by rw[hk];decide);go_wp2_with (go_at_call 100;refine(a.out.name hk).mono ?_;rintro e z ⟨rfl,a⟩;clear y u o d;obtain⟨y,u,o,d⟩:=a.out.cells;have k:=a.out.put5 Qa (.int .i64 1) (.string (ak (cV l.tail).t)) (.slice none 0 0) (.slice none 0 0) (.slice none 0 0);simp only[World.setCells,aE,Nat.reduceAdd,a8,bZ,b6]at k;have a:=G k;clear k)
    cases he:dB E9 l.tail.tail with
    |true=>
     have ay:=bK he;have R:4*l.tail.tail.tail.length+2<=f:=Qa
     go_wp2_with (go_at_call 97;refine(a.out.yes he).mono ?_;rintro e z ⟨rfl,a⟩;clear y u o d;obtain⟨y,u,o,d⟩:=a.out.cells)
     cases hx:cv f 1 l.tail.tail.tail with
     |error p=>
      obtain⟨q,ag⟩:=p;go_wp2_with (go_at_call 204;refine(a.out.xerr V R hx).mono ?_;unfold a_;rintro e z ⟨rfl,A⟩);exact⟨rfl,dI (by rw[d7,if_neg (by simp[h1]),if_neg (by simp[h2]),if_pos h3,cg hk,then_ok,if_pos he,hx,ci,ci]) A.out⟩
     |ok p=>
      obtain⟨x,r⟩:=p;go_wp2_with (go_at_call 204;refine(a.out.expr V R hx).mono ?_;rintro e K ⟨ar,n,c,rfl,a⟩;clear y u o d;obtain⟨y,u,o,d⟩:=a.out.cells;have k:=a.out.set Qa 2 (.slice (some ⟨K.heap.size,0,none⟩) 1 1);simp only[World.setCells,aE,Nat.reduceAdd,a8,bZ,b6]at k;have a:=G k;clear k)
      cases hs:dB yr r with
      |true=>
       go_wp2_with (go_at_call 99;refine(a.out.want hs).mono ?_;rintro e z ⟨rfl,a⟩;clear y u o d;obtain⟨y,u,o,d⟩:=a.out.cells);obtain⟨F,H⟩:=a.out.fin (r:=d7 (f+1) l) (.mk 1 (cV l.tail).t [x] [] []) 1 (ak (cV l.tail).t) (some ⟨K.heap.size,0,none⟩) 1 1 none 0 0 none 0 0 (by rw[d7,if_neg (by simp[h1]),if_neg (by simp[h2]),if_pos h3,cg hk,then_ok,if_pos he,hx,then_ok,then_ok,cZ hs,then_ok]) rfl rfl (λJ=>⟨J.2.mono (λb M _=>by omega), .nil _ _, .nil _ _⟩);simp only[World.setCells,aE,Nat.reduceAdd]at F H;exact bodyPost_ret (v:= .agg #[.int .i64 1, .string (ak (cV l.tail).t), .slice (some ⟨K.heap.size,0,none⟩) 1 1, .slice none 0 0, .slice none 0 0]) (by simp[results,results160,go_sem,F]) rfl H
      |false=>
       go_wp2_with (go_at_call 99;refine(a.out.bad hs).mono ?_;unfold a_;rintro e z ⟨rfl,A⟩);exact⟨rfl,dI (by rw[d7,if_neg (by simp[h1]),if_neg (by simp[h2]),if_pos h3,cg hk,then_ok,if_pos he,hx,then_ok,then_ok,fp hs,ci]) A.out⟩
    |false=>
     have I:=he;go_wp2_with (go_at_call 97;refine(a.out.no I).mono ?_;rintro e z ⟨rfl,a⟩;clear I;clear y u o d;obtain⟨y,u,o,d⟩:=a.out.cells)
     cases hs:dB yr l.tail.tail with
     |true=>
      go_wp2_with (go_at_call 99;refine(a.out.want hs).mono ?_;rintro e z ⟨rfl,a⟩;clear y u o d;obtain⟨y,u,o,d⟩:=a.out.cells);obtain⟨F,H⟩:=a.out.fin (r:=d7 (f+1) l) (.mk 1 (cV l.tail).t [] [] []) 1 (ak (cV l.tail).t) none 0 0 none 0 0 none 0 0 (by rw[d7,if_neg (by simp[h1]),if_neg (by simp[h2]),if_pos h3,cg hk,then_ok,if_neg (by simp[he]),then_ok,cZ hs,then_ok]) rfl rfl (λ_=>⟨.nil _ _, .nil _ _, .nil _ _⟩);simp only[World.setCells,aE,Nat.reduceAdd]at F H;exact bodyPost_ret (v:= .agg #[.int .i64 1, .string (ak (cV l.tail).t), .slice none 0 0, .slice none 0 0, .slice none 0 0]) (by simp[results,results160,go_sem,F]) rfl H
     |false=>
      go_wp2_with (go_at_call 99;refine(a.out.bad hs).mono ?_;unfold a_;rintro e z ⟨rfl,A⟩);exact⟨rfl,dI (by rw[d7,if_neg (by simp[h1]),if_neg (by simp[h2]),if_pos h3,cg hk,then_ok,if_neg (by simp[he]),then_ok,fp hs,ci]) A.out⟩
   |false=>
    have I:=h3;go_wp2_with (go_at_call 97;refine(a.out.no I).mono ?_;rintro e z ⟨rfl,a⟩;clear I;clear y u o d;obtain⟨y,u,o,d⟩:=a.out.cells)
    cases h4:dB sA l with
    |true=>
     have ai:=bK h4;go_wp2_with (go_at_call 97;refine(a.out.yes h4).mono ?_;rintro e z ⟨rfl,a⟩;clear y u o d;obtain⟨y,u,o,d⟩:=a.out.cells;have k:=a.out.put5 Qa (.int .i64 6) (.string ⟨#[]⟩) (.slice none 0 0) (.slice none 0 0) (.slice none 0 0);simp only[World.setCells,aE,Nat.reduceAdd,a8,bZ,b6]at k;have a:=G k;clear k)
     cases hs:dB yr l.tail with
     |true=>
      go_wp2_with (go_at_call 157;refine(a.out.is hs).mono ?_;rintro e z ⟨rfl,a⟩;clear y u o d;obtain⟨y,u,o,d⟩:=a.out.cells);go_wp2_with (go_at_call 99;refine(a.out.want hs).mono ?_;rintro e z ⟨rfl,a⟩;clear y u o d;obtain⟨y,u,o,d⟩:=a.out.cells);obtain⟨F,H⟩:=a.out.fin (r:=d7 (f+1) l) (.mk 6 [] [] [] []) 6 ⟨#[]⟩ none 0 0 none 0 0 none 0 0 (by rw[d7,if_neg (by simp[h1]),if_neg (by simp[h2]),if_neg (by simp[h3]),if_pos h4,if_pos hs,then_ok,cZ hs,then_ok]) rfl rfl (λ_=>⟨.nil _ _, .nil _ _, .nil _ _⟩);simp only[World.setCells,aE,Nat.reduceAdd]at F H;exact bodyPost_ret (v:= .agg #[.int .i64 6, .string ⟨#[]⟩, .slice none 0 0, .slice none 0 0, .slice none 0 0]) (by simp[results,results160,go_sem,F]) rfl H
     |false=>
      have R:4*l.tail.length+2<=f:=Qa
      go_wp2_with (go_at_call 157;refine(a.out.is hs).mono ?_;rintro e z ⟨rfl,a⟩;clear y u o d;obtain⟨y,u,o,d⟩:=a.out.cells)
      cases hx:cv f 1 l.tail with
      |error p=>
       obtain⟨q,ag⟩:=p;go_wp2_with (go_at_call 204;refine(a.out.xerr V R hx).mono ?_;unfold a_;rintro e z ⟨rfl,A⟩);exact⟨rfl,dI (by rw[d7,if_neg (by simp[h1]),if_neg (by simp[h2]),if_neg (by simp[h3]),if_pos h4,if_neg (by simp[hs]),hx,ci,ci]) A.out⟩
      |ok p=>
       obtain⟨x,r⟩:=p;go_wp2_with (go_at_call 204;refine(a.out.expr V R hx).mono ?_;rintro e K ⟨ar,n,c,rfl,a⟩;clear y u o d;obtain⟨y,u,o,d⟩:=a.out.cells;have k:=a.out.set Qa 2 (.slice (some ⟨K.heap.size,0,none⟩) 1 1);simp only[World.setCells,aE,Nat.reduceAdd,a8,bZ,b6]at k;have a:=G k;clear k)
       cases ht:dB yr r with
       |true=>
        go_wp2_with (go_at_call 99;refine(a.out.want ht).mono ?_;rintro e z ⟨rfl,a⟩;clear y u o d;obtain⟨y,u,o,d⟩:=a.out.cells);obtain⟨F,H⟩:=a.out.fin (r:=d7 (f+1) l) (.mk 6 [] [x] [] []) 6 ⟨#[]⟩ (some ⟨K.heap.size,0,none⟩) 1 1 none 0 0 none 0 0 (by rw[d7,if_neg (by simp[h1]),if_neg (by simp[h2]),if_neg (by simp[h3]),if_pos h4,if_neg (by simp[hs]),hx,then_ok,then_ok,cZ ht,then_ok]) rfl rfl (λJ=>⟨J.2.mono (λb M _=>by omega), .nil _ _, .nil _ _⟩);simp only[World.setCells,aE,Nat.reduceAdd]at F H;exact bodyPost_ret (v:= .agg #[.int .i64 6, .string ⟨#[]⟩, .slice (some ⟨K.heap.size,0,none⟩) 1 1, .slice none 0 0, .slice none 0 0]) (by simp[results,results160,go_sem,F]) rfl H
       |false=>
        go_wp2_with (go_at_call 99;refine(a.out.bad ht).mono ?_;unfold a_;rintro e z ⟨rfl,A⟩);exact⟨rfl,dI (by rw[d7,if_neg (by simp[h1]),if_neg (by simp[h2]),if_neg (by simp[h3]),if_pos h4,if_neg (by simp[hs]),hx,then_ok,then_ok,fp ht,ci]) A.out⟩
    |false=>
     have aj:4*l.length+2<=f:=Qa
     have I:=h4;go_wp2_with (go_at_call 97;refine(a.out.no I).mono ?_;rintro e z ⟨rfl,a⟩;clear I;clear y u o d;obtain⟨y,u,o,d⟩:=a.out.cells)
     cases hc:gQ f l with
     |error p=>
      obtain⟨q,ag⟩:=p;go_wp2_with (go_at_call 205;refine(a.out.serr V an aj hc).mono ?_;unfold a_;rintro e z ⟨rfl,A⟩);exact⟨rfl,dI (by rw[mM f l h1 h2 h3 h4,hc,ci]) A.out⟩
     |ok p=>
      obtain⟨s,r⟩:=p;go_wp2_with (go_at_call 205;refine(a.out.simp V an aj hc).mono ?_;rintro e z ⟨af,ab,c1,ae,aa,c2,ad,Z,ac,rfl,a⟩;clear y u o d;obtain⟨y,u,o,d⟩:=a.out.cells;have k:=a.out.put5 Qa (.int .i64 s.k) (.string (ak s.nm)) (.slice af ab c1) (.slice ae aa c2) (.slice ad Z ac);simp only[World.setCells,aE,Nat.reduceAdd,a8,bZ,b6]at k;have a:=G k;clear k)
      cases hs:dB yr r with
      |true=>
       go_wp2_with (go_at_call 99;refine(a.out.want hs).mono ?_;rintro e z ⟨rfl,a⟩;clear y u o d;obtain⟨y,u,o,d⟩:=a.out.cells);obtain⟨F,H⟩:=a.out.fin (r:=d7 (f+1) l) (s) s.k (ak s.nm) af ab c1 ae aa c2 ad Z ac (by rw[mM f l h1 h2 h3 h4,hc,then_ok,cZ hs,then_ok]) rfl rfl (λJ=>J.2.keep ⟨ah _,λ_ _ _=>rfl⟩ (λb M _=>by omega));simp only[World.setCells,aE,Nat.reduceAdd]at F H;exact bodyPost_ret (v:= .agg #[.int .i64 s.k, .string (ak s.nm), .slice af ab c1, .slice ae aa c2, .slice ad Z ac]) (by simp[results,results160,go_sem,F]) rfl H
      |false=>
       go_wp2_with (go_at_call 99;refine(a.out.bad hs).mono ?_;unfold a_;rintro e z ⟨rfl,A⟩);exact⟨rfl,dI (by rw[mM f l h1 h2 h3 h4,hc,then_ok,fp hs,ci]) A.out⟩
theorem tZ: ∀(f:Nat),f<=400000->(∀i,i<=f->Cz i)/\mZ f/\G2 f
 |0,_=>by
  refine⟨λi z=> ?_,?_,?_⟩
  ·obtain rfl:i=0:=Qa
   intro l en w g a d;omega
  ·intro l en w g a d;omega
  ·intro l en w g a d;omega
 |f+1,d=>by
  obtain⟨y,u,o⟩:=tZ f Qa;have h:=Bx (f:=f) Qa;have A:=yi f h (yK Qa) u o
  exact⟨λi z=>by
   rcases eS f i with a|a
   ·obtain rfl:i=f+1:=Qa
    exact A
   ·exact y i a,wT f Qa y,DQ f h u o⟩
theorem rV {f:Nat} (a:f<=400000):mZ f:=(tZ f a).2.1
theorem PA.set2 {w:World} {g:Nat} {l:List co} {en:Int} {ps i:Nat} {v:Value} (u:PA w g l en) (y:g<ps): ∃a c,aM w g 124 #[.slice a l.length c, .int .i64 en]/\aM (w.setCell ⟨ps,i,none⟩ v) g 124 #[.slice a l.length c, .int .i64 en]/\xU (w.setCell ⟨ps,i,none⟩ v) a c l/\ ∀b off,a=some ⟨b,off,none⟩->l≠ []->b<g:=by
 obtain⟨a,c,d,h,o⟩:=u.grown (fu w ps i v) (λk e=>by injection e with e;omega);refine⟨a,c,?_,d,h,o⟩;exact(Below.heap_setCell w ⟨ps,i,none⟩ v g (by show g≠ps;omega)).symm.trans d
def EU (g:Nat) (en:Int) (w:World) (r:PR Vr) (e:Ending) (w':World):Prop:=
 w.grownBy w' (some g)/\match r with
 | .ok (v,q)=>e= .returned (.agg #[.string (ak v.nm), .int .i64 v.sz])/\PA w' g q en
 | .error (q,n)=>e=a_ en q n
theorem kF {g:Nat} {en:Int} {w w':World} {r:PR Vr} {q:List co} {n:Int} (a:r= .error (q,n)) (d:w.grownBy w' (some g)):EU g en w r (a_ en q n) w':=by
 subst a;exact⟨d,rfl⟩
theorem F9 {w W:World} {g a:Nat} {en:Int} {q:List co} {z y:Value} {r:PR Vr} (v:Vr) (h:ByteArray) (d:Int) (F:r= .ok (v,q)) (H:ak v.nm=h) (A:v.sz=d) (G:w.heap.size<=a) (M:aM W a 76 #[z,y]) (K:w.grownBy W (some g)) (J:PA W g q en) (R:g<w.heap.size):
  (∀o,(W.setCells a 0 [.string h, .int .i64 d]).cell? ⟨a,o,none⟩=(#[.string h, .int .i64 d]:Array Value)[o]?)/\EU g en w r (.returned (.agg #[.string h, .int .i64 d])) (W.setCells a 0 [.string h, .int .i64 d]):=by
 subst F H A;have u:=d_ a [.string (ak v.nm), .int .i64 v.sz] 0 W;have I:=(M.set 0 (.string (ak v.nm))).set 1 (.int .i64 v.sz);exact⟨λo=>by have:=I.cell o;simpa[World.setCells]using this,ef K u G,rfl,J.grown u λk e=>by injection e with e;omega⟩
section
variable {w W W':World} {g pb sb:Nat} {en:Int} {pc sc:Array Value} {ty:TypeId} {X:World->Prop} {l l':List co}
theorem SK.next (d:SK w g en pb pc sb sc ty X l W) {k v fr:Int} {tx:List UInt8} (h:cV l=⟨k,tx,v,fr⟩):Calls prog 158 #[.pointer (some ⟨g,0,none⟩)] W λe W'=>e= .returned (.agg #[.int .i64 k, .string (ak tx), .int .i64 v, .int .i64 fr])/\Hid (SK w g en pb pc sb sc ty X l (W'.alloc (.cells #[.int .i64 k, .string (ak tx), .int .i64 v, .int .i64 fr] 188))):=by
 have:=eY g l en W d.pa;rw[h]at this;exact this.mono λe W' a=>⟨a.1,G (d.ext (a.2.alloc' _))⟩
theorem SK.fail (d:SK w g en pb pc sb sc ty X l W) (n:Int):Calls prog 159 #[.pointer (some ⟨g,0,none⟩), .int .i64 n] W λe W'=>e=a_ en l n/\Hid (w.grownBy W' (some g)):=
 (qv g l en n W d.pa).mono λe W' a=>⟨a.1,G (am d.gr (a.2.grownBy _))⟩
theorem SK.finV {y u:Value} (h:SK w g en w.heap.size #[y,u] sb sc 76 X l W) {r:PR Vr} (v:Vr) (d:ByteArray) (a:Int) (A:r= .ok (v,l)) (F:ak v.nm=d) (z:v.sz=a):
  (∀o,(W.setCells w.heap.size 0 [.string d, .int .i64 a]).cell? ⟨w.heap.size,o,none⟩=(#[.string d, .int .i64 a]:Array Value)[o]?)/\EU g en w r (.returned (.agg #[.string d, .int .i64 a])) (W.setCells w.heap.size 0 [.string d, .int .i64 a]):=
 F9 v d a A F z (ah _) h.rb h.gr h.pa h.nn.1
end
theorem xh (l:List co) (en:Int) (w:World) (g:Nat) (ae:PA w g l en):Calls prog 98 #[.pointer (some ⟨g,0,none⟩)] w (EU g en w (kg l)):=by
 have ax:=ae.lt;have a:=G (SK.one ae #[.string ⟨#[]⟩, .int .i64 0] 76);have ar:w.heap.size≠g:=Qa
 have aw:g≠w.heap.size:=Qa
 obtain⟨y,u,o,d⟩:=a.out.cells;clear ae;go_enter func98,ntmps98;by_cases hk:(cV l).k=1
 rotate_left
 ·go_wp2_with (go_at_call 100;refine(a.out.noname hk).mono ?_;unfold a_;rintro e z ⟨rfl,F⟩);exact⟨rfl,kF (by unfold kg;rw[lK hk,ci]) F.out⟩
 go_wp2_with (go_at_call 100;refine(a.out.name hk).mono ?_;rintro e H ⟨rfl,a⟩;have ao:=a.out.rb.lt;have a:=G (a.out.open (Y:=λ_=>True) #[.string (ak (cV l).t), .int .i64 0] (λ_=>trivial) λ_ _ _ _ _ _=>trivial);have aq:H.heap.size≠g:=Qa;have av:g≠H.heap.size:=Qa;have au:w.heap.size≠H.heap.size:=Qa;have ap:H.heap.size≠w.heap.size:=Qa;clear y u o d;obtain⟨y,u,o,d⟩:=a.out.cells)
 cases hb:dB sB l.tail with
 |true=>
  go_wp2_with (go_at_call 97;refine(a.out.yes hb).mono ?_;rintro e z ⟨rfl,a⟩;clear y u o d;obtain⟨y,u,o,d⟩:=a.out.cells);obtain⟨⟨k,tx,v,fr⟩,A⟩: ∃t,cV l.tail.tail=t:=⟨_,rfl⟩
  by_cases h3:k=3
  rotate_left
  ·have am:(k==3)=false:=Qn.2 h3;have ay:(k !=3)=true:=by rw[bne,am];rfl
   go_wp2_with (go_at_call 158;refine(a.out.next A).mono ?_;rintro e z ⟨rfl,a⟩;clear y u o d;obtain⟨y,u,o,d⟩:=a.out.cells);go_wp2_with (go_at_call 159;refine(a.out.fail 3).mono ?_;unfold a_;rintro e z ⟨rfl,F⟩);exact⟨rfl,kF (by unfold kg;rw[cg hk,then_ok,if_pos hb,A];dsimp only;rw[if_neg h3,ci]) F.out⟩
  subst h3;by_cases ag: ¬v<1
  rotate_left
  ·have ag:v<1:=Qa
   go_wp2_with (go_at_call 158;refine(a.out.next A).mono ?_;rintro e z ⟨rfl,a⟩;clear y u o d;obtain⟨y,u,o,d⟩:=a.out.cells);go_wp2_with (go_at_call 159;refine(a.out.fail 2).mono ?_;unfold a_;rintro e z ⟨rfl,F⟩);exact⟨rfl,kF (by unfold kg;rw[cg hk,then_ok,if_pos hb,A];dsimp only;rw[if_pos rfl,if_pos (.inl ag),ci]) F.out⟩
  by_cases af: ¬2000<v
  rotate_left
  ·have af:2000<v:=Qa
   go_wp2_with (go_at_call 158;refine(a.out.next A).mono ?_;rintro e z ⟨rfl,a⟩;clear y u o d;obtain⟨y,u,o,d⟩:=a.out.cells);go_wp2_with (go_at_call 159;refine(a.out.fail 2).mono ?_;unfold a_;rintro e z ⟨rfl,F⟩);exact⟨rfl,kF (by unfold kg;rw[cg hk,then_ok,if_pos hb,A];dsimp only;rw[if_pos rfl,if_pos (.inr af),ci]) F.out⟩
  obtain⟨ai,r,R⟩:=nG (show(cV l.tail.tail).k=3 by rw[A]) Qd;obtain rfl:ai=⟨3,tx,v,fr⟩:=by rw[R]at A;exact A
  have V:l.tail.tail.tail=r:=by rw[R];rfl
  go_wp2_with (go_at_call 158;refine(a.out.next A).mono ?_;rintro e z ⟨rfl,a⟩;clear y u o d;obtain⟨y,u,o,d⟩:=a.out.cells;have Z:=a.out.pa;rw[R]at Z;obtain⟨az,c,ad,ac,K,aa⟩:=Z.set2 (ps:=H.heap.size) (i:=1) (v:= .int .i64 v) Qa;obtain⟨b,off,rfl,ab,_⟩:=K.at_ 0 Qe;have al:=ad.cell;have aj:=ad.frozen;rw[R]at a;clear Z ad);all_goals
   first|have M:=PA.next_a ac K (aa b off rfl Qe) ab (by assumption)|have M:=PA.next_b ac K (aa b off rfl Qe) ab (by assumption)
   have k:=(a.out.set Qa 1 (.int .i64 v)).step M.1 M.2;simp only[a8,bZ,b6]at k;have a:=G k;clear ac K aa ab al aj y u o d M k;generalize World.setCell _ _ _=an at*
   cases hr:dB vx r with
   |true=>
    obtain⟨y,u,o,d⟩:=a.out.cells;go_wp2_with (go_at_call 99;refine(a.out.want hr).mono ?_;rintro e z ⟨rfl,a⟩;clear y u o d;obtain⟨y,u,o,d⟩:=a.out.cells)
    cases hs:dB yr r.tail with
    |true=>
     go_wp2_with (go_at_call 99;refine(a.out.want hs).mono ?_;rintro e z ⟨rfl,a⟩;clear y u o d;obtain⟨y,u,o,d⟩:=a.out.cells);obtain⟨I,J⟩:=a.out.finV (r:=kg l) (⟨(cV l).t,v⟩) (ak (cV l).t) v (by unfold kg;rw[cg hk,then_ok,if_pos hb,A];dsimp only;rw[if_pos rfl,if_neg Qa,V,cZ hr,then_ok,then_ok,cZ hs,then_ok]) rfl rfl;simp only[World.setCells,aE]at I J;exact bodyPost_ret (v:= .agg #[.string (ak (cV l).t), .int .i64 v]) (by simp[results,results98,go_sem,I]) rfl J
    |false=>
     go_wp2_with (go_at_call 99;refine(a.out.bad hs).mono ?_;unfold a_;rintro e z ⟨rfl,F⟩);exact⟨rfl,kF (by unfold kg;rw[cg hk,then_ok,if_pos hb,A];dsimp only;rw[if_pos rfl,if_neg Qa,V,cZ hr,then_ok,then_ok,fp hs,ci]) F.out⟩
   |false=>
    go_wp2_with (go_at_call 99;refine(a.out.bad hr).mono ?_;unfold a_;rintro e z ⟨rfl,F⟩);exact⟨rfl,kF (by unfold kg;rw[cg hk,then_ok,if_pos hb,A];dsimp only;rw[if_pos rfl,if_neg Qa,V,fp hr,ci,ci]) F.out⟩
 |false=>
  have ah:=hb;go_wp2_with (go_at_call 97;refine(a.out.no ah).mono ?_;rintro e z ⟨rfl,a⟩;clear ah;clear y u o d;obtain⟨y,u,o,d⟩:=a.out.cells)
  cases hs:dB yr l.tail with
  |true=>
   go_wp2_with (go_at_call 99;refine(a.out.want hs).mono ?_;rintro e z ⟨rfl,a⟩;clear y u o d;obtain⟨y,u,o,d⟩:=a.out.cells);obtain⟨I,J⟩:=a.out.finV (r:=kg l) (⟨(cV l).t,0⟩) (ak (cV l).t) 0 (by unfold kg;rw[cg hk,then_ok,if_neg (by simp[hb]),then_ok,cZ hs,then_ok]) rfl rfl;simp only[World.setCells,aE]at I J;exact bodyPost_ret (v:= .agg #[.string (ak (cV l).t), .int .i64 0]) (by simp[results,results98,go_sem,I]) rfl J
  |false=>
   go_wp2_with (go_at_call 99;refine(a.out.bad hs).mono ?_;unfold a_;rintro e z ⟨rfl,F⟩);exact⟨rfl,kF (by unfold kg;rw[cg hk,then_ok,if_neg (by simp[hb]),then_ok,fp hs,ci]) F.out⟩
def qR (w:World) (P:Nat->Prop) (v:Value) (ls:List (List UInt8)):Prop:=
 ∃A c,v= .slice A ls.length c/\(ls=[]\/ls.length<=c/\c<=maxLen/\ ∃b o,A=some ⟨b,o,none⟩/\P b/\b<w.heap.size/\ ∀i,(h:i<ls.length)->w.cell? ⟨b,o+i,none⟩=some (.string (ak ls[i])))
theorem qR.nil_ (w:World) (P:Nat->Prop):qR w P (.slice none 0 0) []:=⟨none,0,rfl, .inl rfl⟩
theorem qR.keep {w w':World} {P Q:Nat->Prop} {v:Value} {ls:List (List UInt8)} (d:qR w P v ls) (h:dE P w w') (A: ∀b,P b->b<w.heap.size->Q b):qR w' Q v ls:=by
 obtain⟨H,c,rfl,d⟩:=d;refine⟨H,c,rfl,d.imp id fun⟨G,F,b,u,ha,o,a,z⟩=>⟨G,F,b,u,ha,A b o a,aA a h.size,λi y=>(h.cell _ o a).trans (z i y)⟩⟩
theorem qR.mono {w:World} {P Q:Nat->Prop} {v:Value} {ls:List (List UInt8)} (d:qR w P v ls) (a: ∀b,P b->b<w.heap.size->Q b):qR w Q v ls:=d.keep ⟨ah _,λ_ _ _=>rfl⟩ a
def rE (ls:List (List UInt8)):List Value:=ls.map λx=> .string (ak x)
def w_ (w:World) (base:Nat) (v:Value) (ls:List (List UInt8)):Prop:=w.ownsRow base 9 1 v ls.length (rE ls)
theorem w_.rd {w:World} {base:Nat} {v:Value} {ls:List (List UInt8)} (o:w_ w base v ls):qR w (λb=>base<=b) v ls:=by
 rcases o.2 with⟨rfl,h⟩|⟨g,cap,cur,rfl,hb,hg,hnc,hcm,hcs,ht⟩
 ·have:ls=[]:=aX h;subst this;exact .nil_ _ _
 ·refine⟨_,cap,rfl, .inr ⟨hnc,hcm,g,0,rfl,hb,(Array.getElem?_eq_some_iff.1 hg).1,λi d=> ?_⟩⟩;rw[aE,cell_of_row w g i cur 9 (0,0) hg];have a:(rE ls)[i]? =some (.string (ak ls[i])):=by simp[rE,d]
  rw[<-ht,b_]at a;rw[if_pos Qa]at a;simpa using a
theorem JV:mY prog 58 9 1 16 (.string ⟨#[]⟩):=⟨underlying58,by kernel_rfl,by rfl,by decide⟩
theorem Bb (base g a pb:Nat) (nm:List UInt8) (l:List co) (en:Int) (w:World) (C:Option Addr) (n ae:Nat)
  (A:PA w g l en) (H:aM w pb 122 #[.pointer (some ⟨g,0,none⟩)]) (F:aM w a 81 #[.string (ak nm), .slice C n ae, .slice none 0 0])
  (ac:base<=w.heap.size) (au:g<a) (ar:g<pb) (M: ¬(cV l).k=1):
  Calls prog 102 #[.pointer (some ⟨a,0,none⟩), .pointer (some ⟨pb,0,none⟩)] w λe w'=>e=a_ en l 3/\Fr base g a w w':=by
 have ai:=G A;have aj:=G H;have ag:=G F;have aq:g<w.heap.size:=A.lt;have K:a≠g:=Qa
 have Z:pb≠g:=Qa
 clear A H F;go_enter func102,ntmps102;refine cM 5 0 [(3,λv=>v= .string ⟨#[]⟩,λ_ _=>False),(4,λv=> ∃J,v= .slice (some ⟨J,0,none⟩) 1 1,λ_ _=>True)] 3 (some g) mixed Qb
  ⟨λ_ _ _ o _=>o,λ_ _ _ o _=>o,trivial⟩ ⟨.inl rfl, .inr λ_ _ _ o _=>o,trivial⟩ ?_
 repeat (refine sx ?_ (λao u=> ?_) ?_;rotate_left;(focus have aw:=(ag.out.grown (aJ u) (λe=>K (ab e))).cell;have av:=(aj.out.grown (aJ u) (λe=>Z (ab e))).cell;clear u;go_simp<;>with_reducible rfl);simp only[bA,bx,bw,br,bo])
 refine dD _ _ Qf rfl ⟨_,rfl⟩ rfl (λy z d af I=> ?_) ?_
 ·clear d;have V:=qk g l en y (ai.out.ext z.un) M;have ah:=G z.un;clear z;go_simp;refine V.mono ?_;unfold a_;rintro e an ⟨rfl,ad⟩;intro ax R;exact⟨R,rfl,dx (am (ah.out.grownBy _) ad) ac (λk e=>by injection e with e;omega)⟩
 rintro _ rfl;simp only[bA,bx,bw,br,bo];refine cS _ _ Qf rfl ⟨_,0,rfl⟩ Qe (λy u d af I=> ?_) ?_
 ·clear d;go_simp;exact I _ _ (aa y _) ⟨_,rfl⟩ trivial
 rintro _ ⟨J,rfl⟩;simp only[bA,bx,bw,br,bo];intro al ap d;exact(d _ (.tail _ (.head _))).elim
theorem Dy (base g o pb:Nat) (nm:List UInt8) (l:List co) (en:Int) (w:World) (J:List (List UInt8)) (C:Option Addr) (n V:Nat)
  (af:PA w g l en) (ar:aM w pb 122 #[.pointer (some ⟨g,0,none⟩)]) (u:aM w o 81 #[.string (ak nm), .slice C n V, .slice none 0 0])
  (ax:w_ w base (.slice C n V) J) (ap:J.length=n) (aI:base<=w.heap.size) (ba:g<o) (a8:g<pb) (a5:o<base) (a6:n<=100000) (ad:(cV l).k=1):
  Calls prog 102 #[.pointer (some ⟨o,0,none⟩), .pointer (some ⟨pb,0,none⟩)] w λe w'=>e= .returned (.tuple #[])/\Fr base g o w w'/\PA w' g l.tail en/\
   ∃aE cap',aM w' o 81 #[.string (ak nm), .slice aE (n+1) cap', .slice none 0 0]/\w_ w' base (.slice aE (n+1) cap') (J++[(cV l).t]):=by
 have aT:=G af;have aX:=G ar;have aC:=G u;have aD:=G (show w.ownsRow base 9 1 (.slice C n V) n (rE J) by have:=ax;unfold w_ at this;rwa [ap]at this);have a7:g<w.heap.size:=af.lt;have aj:o≠g:=Qa
 have aH:pb≠g:=Qa
 clear af ar u ax;go_enter func102,ntmps102;refine cM 5 0 [(3,λv=>v= .string (ak (cV l).t),λv Z=>PA Z g l.tail en),(4,λv=> ∃a,v= .slice (some ⟨a,0,none⟩) 1 1,λv Z=> ∀a,v= .slice (some ⟨a,0,none⟩) 1 1->w.heap.size<=a/\aM Z a 9 #[.string (ak (cV l).t)])] 3 (some g) mixed Qb
  ⟨λ_ _ _ d u=>d.ext u,λ_ _ _ d u a e=>⟨(d a e).1,(d a e).2.ext u⟩,trivial⟩ ⟨.inl rfl, .inr λ_ _ _ d u a e=>⟨(d a e).1,(d a e).2.grown u (λaB=>by have:=(d a e).1;injection aB with aB;omega)⟩,trivial⟩ ?_
 repeat (refine sx ?_ (λaZ A=> ?_) ?_;rotate_left;(focus have bd:=(aC.out.grown (aJ A) (λe=>aj (ab e))).cell;have bc:=(aX.out.grown (aJ A) (λe=>aH (ab e))).cell;clear A;go_simp<;>with_reducible rfl);simp only[bA,bx,bw,br,bo])
 refine dD _ _ Qf rfl ⟨_,rfl⟩ rfl (λK au z aO ag=> ?_) ?_
 ·clear z;have aG:=jL g l en K (aT.out.ext au.un) ad;clear au;go_simp;refine aG.mono ?_;rintro e aY ⟨rfl,aN,aL⟩;exact ag _ _ aL rfl aN
 rintro _ rfl;simp only[bA,bx,bw,br,bo];refine cS _ _ Qf rfl ⟨_,0,rfl⟩ Qe (λK A z aO ag=> ?_) ?_
 ·have aF:=(aJ A).size;clear z A;go_simp;exact ag _ _ (aa K _) ⟨_,rfl⟩ (λa e=>by injection e with e;injection e with e;injection e with e;subst e;exact⟨aF,aq K _ _⟩)
 rintro _ ⟨a,rfl⟩;simp only[bA,bx,bw,br,bo];intro ai y z;obtain⟨a9,az⟩:=z _ (.head _) a rfl;have aA:=z _ (.tail _ (.head _));clear z;simp only[ae,aw];have y:=aJ y;have a2:=y.size;have al:=World.ownsRow.lt aD.out;have H:=λk ad=>(al k ad).1
 have av:=aD.out.kept y (by
  cases ho:Value.ownBlock (.slice C n V)with
  |none=>exact .inl rfl
  |some k=>exact .inr λe=>by have:=H k ho;injection e with e;omega)
 have aW:=G (dx y aI (λk e=>by injection e with e;omega):Fr base g o w ai);have aQ:=G (aC.out.grown y (λe=>aj (ab e)));have aS:=G (show PA ai g l.tail en from aA);clear y aA al;refine eV JV rfl _ _ rfl base _ n (rE J) rfl av a [.string (ak (cV l).t)] rfl az rfl Ql Qa Qd Qa ?_;intro F cap' ah an I am;have M:=aQ.out.grown I (λe=>by have:=H _ e.symm;omega);have ao:=aS.out.grown I (λk e=>by have:=H k e;omega);have ay:=aW.out.trans (dx I Qa (λk e=> .inr (.inr (H k e))));have a4:=M.cell;have a3:=M.frozen;have R:=fu ah o 1 (.slice (some ⟨F,0,none⟩) (n+1) cap');have a1:=I.size;have aK:base<=ah.heap.size:=Qa
 have bb:base<=F:=by
  rcases am with d|d
  ·exact H F d.symm
  ·omega
 have aP:=G (M.set 1 (.slice (some ⟨F,0,none⟩) (n+1) cap'));have aR:=G (ao.grown R (λk e=>by injection e with e;omega));have aV:=G (ay.trans (dx R aK (λk e=> .inr (.inl (ab e).symm))));have aU:=G (World.ownsRow.kept an R (.inr (λe=>by have e:F=o:=ab e;omega)));clear an I am R ay ao M av az;go_wp2_with fail
 go_end0
 refine⟨rfl,aV.out,aR.out,some ⟨F,0,none⟩,cap',by simpa using aP.out,?_⟩;have:=aU.out;unfold w_;rw[ac,ap];simpa[rE]using this
def JI (base g pf:Nat) (nm:List UInt8) (en:Int) (w:World) (r:PR (List (List UInt8))) (e:Ending) (w':World):Prop:=
 Fr base g pf w w'/\match r with
 | .ok (a,q)=>e= .returned (.tuple #[])/\PA w' g q en/\ ∃C n cap,aM w' pf 81 #[.string (ak nm), .slice C n cap, .slice none 0 0]/\qR w' (λb=>base<=b) (.slice C n cap) a
 | .error (q,n)=>e=a_ en q n
theorem mO (f:Nat) (base g y pb:Nat) (nm:List UInt8) (l:List co) (en:Int) (w:World)
  (aj:PA w g l en) (ab:aM w pb 122 #[.pointer (some ⟨g,0,none⟩)]) (aw:aM w y 81 #[.string (ak nm), .slice none 0 0, .slice none 0 0])
  (aB:base<=w.heap.size) (az:g<y) (ay:g<pb) (aT:pb≠y) (aL:y<base) (aN:pb<base) (aO:l.length+1<=f) (aV:l.length<=100000):
  Calls prog 101 #[.pointer (some ⟨g,0,none⟩), .func (Fn.func 102) #[] #[.pointer (some ⟨y,0,none⟩), .pointer (some ⟨pb,0,none⟩)]] w (JI base g y nm en w (fY f l)):=by
 have aY:=G aj;have aR:=G ab;have aE:=G aw;have H:=G (cT g l en l7 w aj);clear aj ab aw
 cases hrp:dB l7 l with
 |true=>
  rw[hrp]at H;simp only[if_true]at H;have aq:=G (show fY f l= .ok ([],l.tail)from by unfold fY;rw[if_pos hrp]);go_enter func101,ntmps101;go_wp2_with (go_at_call 97;refine H.out.mono ?_;rintro e aI ⟨rfl,d,a⟩;have au:=G d;have af:=G a;clear d a H)
  go_end0
  rw[aq.out];exact⟨dx af.out aB (λk e=>by injection e with e;omega),rfl,au.out,_,_,_,aE.out.grown af.out (λe=>by injection e with e;omega), .nil_ _ _⟩
 |false=>
  rw[hrp]at H;simp only[aQ,if_false]at H;have aq:=G (show fY f l=fT f [] l from by unfold fY;rw[if_neg (by rw[hrp];simp)]);go_enter func101,ntmps101;go_wp2_with (go_at_call 97;refine H.out.mono ?_;rintro e aI ⟨rfl,d,a⟩;have au:=G d;have af:=G a;clear d a H)
  go_loopw [] (λwr=> ∃(k:Nat) (o:List (List UInt8)) (r:List co) (C:Option Addr) (n ac:Nat),r.length+1<=k/\o.length=n/\n+r.length<=l.length/\Hid (fT k o r=fY f l)/\Hid (PA wr g r en)/\Hid (aM wr y 81 #[.string (ak nm), .slice C n ac, .slice none 0 0])/\
   Hid (w_ wr base (.slice C n ac) o)/\Hid (Fr base g y w wr)) (λwr=>tokN g wr)
  case atStart=>exact⟨f,[],l,none,0,0,aO,rfl,by omega,G aq.out.symm,au,G (aE.out.grown af.out (λe=>by injection e with e;omega)),G (World.ownsRow_nil _ _ _ _),G (dx af.out aB (λk e=>by injection e with e;omega))⟩
  case round=>
   obtain⟨k,o,r,C,n,ac,aX,ax,aU,ap,ar,aD,aP,Z⟩:=hrel;obtain⟨k,rfl⟩: ∃aJ,k=aJ+1:=⟨k-1,by omega⟩
   have aG:=G (Z.out.blk aR.out aN Qa Qa);have aA:base<=wr.heap.size:=by have:=Z.out.size;omega
   have an:=G (show fT (k+1) o r=(jw r).then λx q=>if dB l7 q then .ok (o++[x],q.tail)else(cF AE q).then λ_ q=>fT k (o++[x]) q from by rw[fT]);by_cases hkn:(cV r).k=1
   rotate_left
   ·have K:=G (show fY f l= .error (r,3)from by rw[<-ap.out,an.out,lK hkn];rfl);have A:=G (Bb base g y pb nm r en wr C n ac ar.out aG.out aD.out aA az ay hkn);unfold a_ at A;go_wp2_with (go_at_call 102;refine A.out.mono ?_;rintro e V ⟨rfl,u⟩;have z:=G (Z.out.trans u);clear u A);exact⟨rfl,by rw[K.out];exact⟨z.out,rfl⟩⟩
   ·have aW:=jb (l:=r) (by rw[hkn];decide);have A:=G (Dy base g y pb nm r en wr o C n ac ar.out aG.out aD.out aP.out ax aA az ay aL Qa hkn);have ao:=G (show fY f l=if dB l7 r.tail then .ok (o++[(cV r).t],r.tail.tail)else(cF AE r.tail).then λ_ q=>fT k (o++[(cV r).t]) q from by rw[<-ap.out,an.out,cg hkn];rfl);clear ap an
    cases hr2:dB l7 r.tail with
    |true=>
     have K:=G (show fY f l= .ok (o++[(cV r).t],r.tail.tail)from by rw[ao.out,if_pos hr2])
     go_wp2_with (first
      |(go_at_call 102;refine A.out.mono ?_;rintro e V ⟨rfl,u,F,ai,ag,I,J⟩;have z:=G (Z.out.trans u);have M:=G F;have al:=G I;have ah:=G J;clear u A F I J)
      |(go_at_call 97;refine(cT g r.tail en l7 _ M.out).mono ?_;rw[hr2];simp only[if_true];rintro e av ⟨rfl,d,a⟩;have ad:=G d;have R:=G a;clear d a))
     go_end0
     rw[K.out];have aa:base<=V.heap.size:=by have:=z.out.size;omega
     exact⟨z.out.trans (dx R.out aa (λk e=>by injection e with e;omega)),rfl,ad.out,_,_,_,al.out.grown R.out (λe=>by injection e with e;omega),ah.out.rd.keep (.of_grown R.out λb ab e=>by injection e with e;omega) (λ_ ab _=>ab)⟩
    |false=>
     cases hcm:dB AE r.tail with
     |false=>
      have K:=G (show fY f l= .error (r.tail,3)from by rw[ao.out,if_neg (by rw[hr2];simp),fp hcm];rfl)
      go_wp2_with (first
       |(go_at_call 102;refine A.out.mono ?_;rintro e V ⟨rfl,u,F,ai,ag,I,J⟩;have z:=G (Z.out.trans u);have M:=G F;clear u A F I J)
       |(go_at_call 97;refine(cT g r.tail en l7 _ M.out).mono ?_;rw[hr2];simp only[aQ,if_false];rintro e av ⟨rfl,d,a⟩;have ad:=G d;have R:=G a;clear d a M)
       |(go_at_call 99;refine(gX g r.tail en AE _ ad.out hcm).mono ?_;unfold a_;rintro e aH ⟨rfl,aC⟩;have ae:=G (am R.out aC);clear aC))
      have aa:base<=V.heap.size:=by have:=z.out.size;omega
      exact⟨rfl,by rw[K.out];exact⟨z.out.trans (dx ae.out aa (λk e=>by injection e with e;omega)),rfl⟩⟩
     |true=>
      have K:=G (show fT k (o++[(cV r).t]) r.tail.tail=fY f l from by rw[ao.out,if_neg (by rw[hr2];simp),cZ hcm];rfl);have aS:=bK hcm
      go_wp2_with (first
       |(go_at_call 102;refine A.out.mono ?_;rintro e V ⟨rfl,u,F,ai,ag,I,J⟩;have z:=G (Z.out.trans u);have M:=G F;have al:=G I;have ah:=G J;clear u A F I J)
       |(go_at_call 97;refine(cT g r.tail en l7 _ M.out).mono ?_;rw[hr2];simp only[aQ,if_false];rintro e av ⟨rfl,d,a⟩;have ad:=G d;have R:=G a;clear d a M)
       |(go_at_call 99;refine(eW g r.tail en AE _ ad.out hcm).mono ?_;rintro e aH ⟨rfl,d,a⟩;have aF:=G d;have ae:=G (am R.out a);clear d a))
      have aa:base<=V.heap.size:=by have:=z.out.size;omega
      have aK:=World.ownsRow.lt ah.out;go_roundw
      case rel=>exact⟨k,o++[(cV r).t],r.tail.tail,ai,n+1,ag,by omega,by simp[ax],by omega,K,aF,G (al.out.grown ae.out (λe=>by injection e with e;omega)),G (World.ownsRow.kept ah.out ae.out (by
       cases ho:Value.ownBlock (.slice ai (n+1) ag)with
       |none=>exact .inl rfl
       |some k=>exact .inr λe=>by have:=(aK k ho).1;injection e with e;omega)),G (z.out.trans (dx ae.out aa (λk e=>by injection e with e;omega)))⟩
      case measure=>rw[ar.out.tokN,aF.out.tokN];omega
structure FV where
 c:Fc
 p:Value
 b:Value
def Fl (p:FV):List Value:=[.string (ak p.c.nm),p.p,p.b]
def kX (l:List FV):List Value:=l.flatMap Fl
def E4 (v:Vr):List Value:=[.string (ak v.nm), .int .i64 v.sz]
def kT (l:List Vr):List Value:=l.flatMap E4
theorem yV (a b:List FV):kX (a++b)=kX a++kX b:=by simp[kX]
theorem xZ (a b:List Vr):kT (a++b)=kT a++kT b:=by simp[kT]
theorem me: ∀(l:List FV) (i:Nat) (a:i<l.length) (k:Nat),k<3->(kX l)[i*3+k]? =(Fl l[i])[k]?
 | [],i,a,k,hk=>by simp at a
 |p::l,0,a,k,hk=>by
  simp only[kX,bG,aY,aE,aF];rw[be (by simp[Fl];omega)]
 |p::l,i+1,a,k,hk=>by
  have:=me l i (by simpa using a) k hk;simp only[kX,bG,aP]at this⊢;rw[bD (by simp[Fl];omega),<-this]
  congr 1
  simp[Fl];omega
theorem ob: ∀(l:List Vr) (i:Nat) (a:i<l.length) (k:Nat),k<2->(kT l)[i*2+k]? =(E4 l[i])[k]?
 | [],i,a,k,hk=>by simp at a
 |p::l,0,a,k,hk=>by
  simp only[kT,bG,aY,aE,aF];rw[be (by simp[E4];omega)]
 |p::l,i+1,a,k,hk=>by
  have:=ob l i (by simpa using a) k hk;simp only[kT,bG,aP]at this⊢;rw[bD (by simp[E4];omega),<-this]
  congr 1
  simp[E4];omega
def FV.ok (w:World) (P:Nat->Prop) (p:FV):Prop:=qR w P p.p p.c.ps/\ed w P p.b p.c.body
theorem FV.ok.keep {w w':World} {P Q:Nat->Prop} {p:FV} (h:p.ok w P) (a:dE P w w') (d: ∀b,P b->b<w.heap.size->Q b):p.ok w' Q:=⟨h.1.keep a d,h.2.keep a d⟩
def pt (w:World) (P:Nat->Prop) (v:Value) (vs:List Vr):Prop:=
 ∃A c,v= .slice A vs.length c/\(vs=[]\/vs.length<=c/\c<=maxLen/\ ∃b o,A=some ⟨b,o,none⟩/\P b/\b<w.heap.size/\ ∀i,(h:i<vs.length)->w.cell? ⟨b,o+i*2,none⟩=some (.string (ak vs[i].nm))/\w.cell? ⟨b,o+i*2+1,none⟩=some (.int .i64 vs[i].sz))
theorem pt.keep {w w':World} {P Q:Nat->Prop} {v:Value} {u:List Vr} (o:pt w P v u) (d:dE P w w') (F: ∀b,P b->b<w.heap.size->Q b):pt w' Q v u:=by
 obtain⟨I,c,rfl,o⟩:=o;exact⟨I,c,rfl,o.imp id fun⟨H,G,b,A,ha,h,a,z⟩=>⟨H,G,b,A,ha,F b h a,aA a d.size,λi y=>⟨(d.cell _ h a).trans (z i y).1,(d.cell _ h a).trans (z i y).2⟩⟩⟩
def pE (w:World) (P:Nat->Prop) (v:Value) (fs:List Fc):Prop:=
 ∃A c,v= .slice A fs.length c/\(fs=[]\/fs.length<=c/\c<=maxLen/\ ∃b o,A=some ⟨b,o,none⟩/\P b/\b<w.heap.size/\ ∃pv bv:Nat->Value,∀i,(h:i<fs.length)->w.cell? ⟨b,o+i*3,none⟩=some (.string (ak fs[i].nm))/\w.cell? ⟨b,o+i*3+1,none⟩=some (pv i)/\w.cell? ⟨b,o+i*3+2,none⟩=some (bv i)/\
  qR w P (pv i) fs[i].ps/\ed w P (bv i) fs[i].body)
theorem pE.keep {w w':World} {P Q:Nat->Prop} {v:Value} {y:List Fc} (u:pE w P v y) (a:dE P w w') (o: ∀b,P b->b<w.heap.size->Q b):pE w' Q v y:=by
 obtain⟨K,c,rfl,u⟩:=u
 exact⟨K,c,rfl,u.imp id fun⟨I,H,b,A,ha,h,d,z,J,G⟩=>⟨I,H,b,A,ha,o b h d,aA d a.size,z,J,λi F=>let⟨q0,q1,q2,q3,q4⟩:=G i F
  ⟨(a.cell _ h d).trans q0,(a.cell _ h d).trans q1,(a.cell _ h d).trans q2,q3.keep a o,q4.keep a o⟩⟩⟩
def lm (w:World) (base:Nat) (vv fv:Value) (vs:List Vr) (fs:List FV):Prop:=
 w.ownsRow base 76 2 vv vs.length (kT vs)/\w.ownsRow base 81 3 fv fs.length (kX fs)/\(∀k,vv.ownBlock=some k->fv.ownBlock≠some k)/\ ∀p,p∈fs->p.ok w (λb=>base<=b/\some b≠vv.ownBlock/\some b≠fv.ownBlock)
theorem lm.nil_ (w:World) (base:Nat):lm w base (.slice none 0 0) (.slice none 0 0) [] []:=⟨World.ownsRow_nil _ _ _ _,World.ownsRow_nil _ _ _ _,λk d=>(by cases d),λp a=>(by cases a)⟩
theorem nk {w w':World} {base:Nat} {e:TypeId} {a n:Nat} {v:Value} {xs:List Value} (d:w.ownsRow base e a v n xs) (h: ∀b,base<=b->b<w.heap.size->v.ownBlock=some b->w'.heap[b]? =w.heap[b]?):w'.ownsRow base e a v n xs:=by
 refine⟨d.1,?_⟩;rcases d.2 with o|⟨g,cap,cur,hv,hb,hg,hr⟩
 ·exact .inl o
 ·exact .inr ⟨g,cap,cur,hv,hb,(h g hb (Array.getElem?_eq_some_iff.1 hg).1 (by rw[hv];rfl)).trans hg,hr⟩
theorem lm.keepW {w w':World} {base:Nat} {y A:Value} {z:List Vr} {F:List FV} (a:lm w base y A z F) (G:w.heap.size<=w'.heap.size) (d: ∀b,base<=b->b<w.heap.size->w'.heap[b]? =w.heap[b]?):lm w' base y A z F:=
 ⟨nk a.1 (λb u o _=>d b u o),nk a.2.1 (λb u o _=>d b u o),a.2.2.1,λp H=>(a.2.2.2 p H).keep ⟨G,λb h I=>d b h.1 I⟩ (λb h _=>h)⟩
theorem lm.grown {w w':World} {base:Nat} {a o:Value} {d:List Vr} {u:List FV} {row:Option Nat} (A:lm w base a o d u) (h:w.grownBy w' row) (y: ∀k,row=some k->k<base):lm w' base a o d u:=
 A.keepW h.size λb F z=>h.block b z (λe=>by have:=y b e.symm;omega)
theorem lm.snocV {w w':World} {base:Nat} {u G:Value} {o:List Vr} {H:List FV} {v:Vr} {d n I:Nat} (aa:lm w base u G o H) (V:o.length=n) (M:w'.ownsRow base 76 2 (.slice (some ⟨d,0,none⟩) (n+1) I) (n+1) (kT o++E4 v))
  (z:w.grownBy w' u.ownBlock) (a:some d=u.ownBlock\/d=w.heap.size):lm w' base (.slice (some ⟨d,0,none⟩) (n+1) I) G (o++[v]) H:=by
 subst V;obtain⟨ae,F,A,Z⟩:=aa;have R:=World.ownsRow.lt F;refine⟨by rw[ac,xZ];simpa[kT]using M,nk F (λb _ h J=>z.block b h (λe=>A b e.symm J)),λk y e=> ?_,λp K=>(Z p K).keep (.of_grown z λb h=>h.2.1) λb h ad=>⟨h.1,λe=> ?_,h.2.2⟩⟩
 ·have y:d=k:=ab y;subst y;rcases a with a|a
  ·exact A d a.symm e
  ·have:=(R d e).2;omega
 ·have e:b=d:=ab e;subst e;rcases a with a|a
  ·exact h.2.1 a
  ·omega
theorem lm.snocF {w w':World} {base:Nat} {u y:Value} {G:List Vr} {z:List FV} {p:FV} {d n F:Nat} (ae:lm w base u y G z) (R:p.ok w (λb=>base<=b/\some b≠u.ownBlock/\some b≠y.ownBlock)) (aa:z.length=n) (V:w'.ownsRow base 81 3 (.slice (some ⟨d,0,none⟩) (n+1) F) (n+1) (kX z++Fl p))
  (A:w.grownBy w' y.ownBlock) (h:some d=y.ownBlock\/d=w.heap.size):lm w' base u (.slice (some ⟨d,0,none⟩) (n+1) F) G (z++[p]):=by
 subst aa;obtain⟨K,ag,J,ad⟩:=ae;have Z:=World.ownsRow.lt K
 have H: ∀b,(base<=b/\some b≠u.ownBlock/\some b≠y.ownBlock)->b<w.heap.size->(base<=b/\some b≠u.ownBlock/\some b≠Value.ownBlock (.slice (some ⟨d,0,none⟩) (z.length+1) F)):=λb a af=>⟨a.1,a.2.1,λe=>by
  have e:b=d:=ab e;subst e;rcases h with h|h
  ·exact a.2.2 h
  ·omega⟩
 refine⟨nk K (λb _ a M=>A.block b a (λe=>J b M e.symm)),by rw[ac,yV];simpa[kX]using V,λk I e=> ?_,λq o=> ?_⟩
 ·have e:d=k:=ab e;subst e;rcases h with h|h
  ·exact J d I h.symm
  ·have:=(Z d I).2;omega
 ·rcases List.mem_append.1 o with o|o
  ·exact(ad q o).keep (.of_grown A λb a=>a.2.2) H
  ·rw[cH]at o;subst o;exact R.keep (.of_grown A λb a=>a.2.2) H
theorem lm.rd {w:World} {base:Nat} {F J:Value} {o:List Vr} {a:List FV} (H:lm w base F J o a):pt w (λb=>base<=b) F o/\pE w (λb=>base<=b) J (a.map (·.c)):=by
 obtain⟨R,M,_,K⟩:=H;constructor
 ·rcases R.2 with⟨rfl,G⟩|⟨g,cap,cur,rfl,z,hg,hnc,hcm,hcs,ht⟩
  ·have:o=[]:=aX G;subst this;exact⟨none,0,rfl, .inl rfl⟩
  ·have u: ∀j h,(kT o)[j]? =some h->w.cell? ⟨g,j,none⟩=some h:=λj h d=>by
    rw[cell_of_row w g j cur 76 (0,0) hg];rw[<-ht,b_]at d;split at d
    ·simpa using d
    ·cases d
   exact⟨_,cap,rfl, .inr ⟨hnc,hcm,g,0,rfl,z,(Array.getElem?_eq_some_iff.1 hg).1,λi A=>by
    rw[aE]
    exact⟨u _ _ (ob o i A 0 Qa),u _ _ (ob o i A 1 Qa)⟩⟩⟩
 ·rcases M.2 with⟨rfl,G⟩|⟨g,cap,cur,rfl,z,hg,hnc,hcm,hcs,ht⟩
  ·have:a=[]:=aX G;subst this;exact⟨none,0,rfl, .inl rfl⟩
  ·have u: ∀j h,(kX a)[j]? =some h->w.cell? ⟨g,j,none⟩=some h:=λj h d=>by
    rw[cell_of_row w g j cur 81 (0,0) hg];rw[<-ht,b_]at d;split at d
    ·simpa using d
    ·cases d
   refine⟨some ⟨g,0,none⟩,cap,by simp, .inr ⟨by simpa using hnc,hcm,g,0,rfl,z,(Array.getElem?_eq_some_iff.1 hg).1,λi=>if H:i<a.length then a[i].p else .slice none 0 0,λi=>if H:i<a.length then a[i].b else .slice none 0 0,λi A=> ?_⟩⟩;have y:i<a.length:=by simpa using A
   have e0:(a.map (·.c))[i]=a[i].c:=Qe
   have I:=(K a[i] (ay y)).keep (P:=λb=>base<=b/\some b≠F.ownBlock/\some b≠Value.ownBlock (.slice (some ⟨g,0,none⟩) a.length cap)) (w':=w) ⟨ah _,λ_ _ _=>rfl⟩ (Q:=λb=>base<=b) (λb z _=>z.1);rw[e0];simp only[aE,dif_pos y];exact⟨u _ _ (me a i y 0 Qa),u _ _ (me a i y 1 Qa),u _ _ (me a i y 2 Qa),I.1,I.2⟩
theorem JT:mY prog 28 76 2 24 (.agg #[.string ⟨#[]⟩, .int .i64 0]):=⟨underlying28,by kernel_rfl,by rfl,by decide⟩
theorem JX:mY prog 29 81 3 64 (.agg #[.string ⟨#[]⟩, .slice none 0 0, .slice none 0 0]):=⟨underlying29,by kernel_rfl,by rfl,by decide⟩
def G1 (g:Nat) (en:Int) (w:World) (r:PR Pg) (e:Ending) (w':World):Prop:=
 w.grownBy w' (some g)/\match r with
 | .ok (p,q)=> ∃A n c B m d,e= .returned (.agg #[.slice A n c, .slice B m d])/\pt w' (λb=>w.heap.size<=b) (.slice A n c) p.vs/\pE w' (λb=>w.heap.size<=b) (.slice B m d) p.fs
 | .error (q,n)=>e=a_ en q n
theorem l8 {g:Nat} {en:Int} {w w':World} {r:PR Pg} {q:List co} {n:Int} (a:r= .error (q,n)) (d:w.grownBy w' (some g)):G1 g en w r (a_ en q n) w':=by
 subst a;exact⟨d,rfl⟩
end
end Go.Proofs.YtoedmpgicdekmaaGreatDoor
