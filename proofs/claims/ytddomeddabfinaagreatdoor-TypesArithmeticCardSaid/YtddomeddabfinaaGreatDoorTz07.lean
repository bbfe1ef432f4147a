/-
  Parts of the proof: ParV ParW ParX ParY.
-/
import Derived.Test.YtddomeddabfinaaGreatDoorTz00
import Derived.Test.YtddomeddabfinaaGreatDoorTz06
import Derived.LoopN
set_option maxRecDepth 100000
set_option maxHeartbeats 8000000
set_option linter.unusedVariables false
set_option linter.unusedSimpArgs false
set_option linter.unusedSectionVars false
namespace Go.Proofs.YtddomeddabfinaaGreatDoor
open Go.Proofs.Tryz
section
open Go.RowKit
theorem uR {w:World} {g:Nat} {l:List bN} {en:Int} (h:PA w g l en):SK w g en w.heap.size #[.int .i64 0, .string ⟨#[]⟩, .slice none 0 0, .slice none 0 0, .slice none 0 0] (w.heap.size+1) #[.int .i64 0, .string ⟨#[]⟩, .slice none 0 0, .slice none 0 0, .slice none 0 0] 72 (fun _=>True) l ((w.alloc (.cells #[.int .i64 0, .string ⟨#[]⟩, .slice none 0 0, .slice none 0 0, .slice none 0 0] 72)).alloc (.cells #[.int .i64 0, .string ⟨#[]⟩, .slice none 0 0, .slice none 0 0, .slice none 0 0] 72)):=by
 have hb:=an (w.alloc (.cells #[.int .i64 0, .string ⟨#[]⟩, .slice none 0 0, .slice none 0 0, .slice none 0 0] 72)) 72 #[.int .i64 0, .string ⟨#[]⟩, .slice none 0 0, .slice none 0 0, .slice none 0 0];rw[World.size_alloc]at hb;have hE:=(O w (.cells #[.int .i64 0, .string ⟨#[]⟩, .slice none 0 0, .slice none 0 0, .slice none 0 0] 72)).alloc' (.cells #[.int .i64 0, .string ⟨#[]⟩, .slice none 0 0, .slice none 0 0, .slice none 0 0] 72);have hl:=h.lt;exact⟨h.ext hE,hE.grownBy _,(an w _ _).alloc _,hb,by omega,trivial,fun _ _ _ _ _ _=>trivial⟩
section
variable {w W W':World} {g pb sb:Nat} {en:Int} {pc sc:Array Value} {ty:TypeId} {X:World->Prop} {l l':List bN}
theorem SK.simp (K:SK w g en pb pc sb sc ty X l W) {f:Nat} (hEx:eF f) (hNa:il f) (hf:4*l.length+2<=f) {s:St} {q:List bN} (h:fP f l= .ok (s,q)):Calls prog 184 #[.pointer (some ⟨g,0,none⟩)] W fun e W'=>
  ∃A n c B m d C i j,e= .returned (.agg #[.int .i64 s.k, .string (ai s.nm), .slice A n c, .slice B m d, .slice C i j])/\Hid (SK w g en pb pc sb sc ty (fun V=>X V/\SV.ok V (fun b=>sb<b) ⟨s, .slice A n c, .slice B m d, .slice C i j⟩) q W'):=by
 have hc:=qN f hEx hNa l en W g K.pa hf;rw[h]at hc;refine hc.mono fun e W' hh=> ?_;obtain⟨hG,A,n,c,B,m,d,C,i,j,rfl,hV,hPA⟩:=hh;have hz:=K.sv.lt;exact⟨A,n,c,B,m,d,C,i,j,rfl,G ((K.step hPA hG).with (hV.keep ⟨ah _,fun _ _ _=>rfl⟩ (fun b hb _=>by omega)) fun k hk V V' hV h=>h.keep (.of_grown hV fun b hb e=>by have:=K.nn;injection e with e;omega) (fun b hb _=>hb))⟩
theorem SK.serr (K:SK w g en pb pc sb sc ty X l W) {f:Nat} (hEx:eF f) (hNa:il f) (hf:4*l.length+2<=f) {q:List bN} {n:Int} (h:fP f l= .error (q,n)):Calls prog 184 #[.pointer (some ⟨g,0,none⟩)] W fun e W'=>e=a6 en q n/\Hid (w.grownBy W' (some g)):=by
 have hc:=qN f hEx hNa l en W g K.pa hf;rw[h]at hc;exact hc.mono fun e W' hh=>⟨hh.2,G (am K.gr hh.1)⟩
end
theorem uQ (f:Nat) (hEx:eF f) (hNa:il f) (hBl:ly f) (hIf:Cw f):yV (f+1):=by
 intro l en w g h hf;have hgl:=h.lt;have K:=G (uR h);have hrg:w.heap.size≠g:=by omega
 have hsg:w.heap.size+1≠g:=by omega
 have hgr:g≠w.heap.size:=by omega
 have hgs:g≠w.heap.size+1:=by omega
 obtain⟨hrc,hrf,hsc,hsf⟩:=K.out.cells;clear h;go_enter func148,ntmps148
 cases h1:cP C_ l with
 |true=>
  have hlt:=bq h1;have hfi:4*l.tail.length+3<=f:=by omega
  go_wp2_with (go_at_call 98;refine(K.out.yes h1).mono ?_;rintro e wx ⟨rfl,K⟩;clear hrc hrf hsc hsf;obtain⟨hrc,hrf,hsc,hsf⟩:=K.out.cells)
  cases hc:nr f l.tail with
  |error p=>
   obtain⟨q,er⟩:=p;go_wp2_with (go_at_call 182;refine(K.out.ierr hIf hfi hc).mono ?_;unfold a6;rintro e wx ⟨rfl,HG⟩);exact⟨rfl,cW (by rw[dn,if_pos h1,hc]) HG.out⟩
  |ok p=>
   obtain⟨s,q⟩:=p;go_wp2_with (go_at_call 182;refine(K.out.if hIf hfi hc).mono ?_;rintro e wx ⟨A1,n1,c1,A2,n2,c2,A3,n3,c3,rfl,K⟩;clear hrc hrf hsc hsf;obtain⟨hrc,hrf,hsc,hsf⟩:=K.out.cells);obtain⟨hset,hfin⟩:=K.out.fin (r:=dn (f+1) l) (s) s.k (ai s.nm) A1 n1 c1 A2 n2 c2 A3 n3 c3 (by rw[dn,if_pos h1,hc]) rfl rfl (fun h=>h.2.keep ⟨ah _,fun _ _ _=>rfl⟩ (fun b hb _=>by omega));simp only[World.setCells,aD,Nat.reduceAdd]at hset hfin;exact bodyPost_ret (v:= .agg #[.int .i64 s.k, .string (ai s.nm), .slice A1 n1 c1, .slice A2 n2 c2, .slice A3 n3 c3]) (by simp[results,results148,go_sem,hset]) rfl hfin
 |false=>
  have hN:=h1;go_wp2_with (go_at_call 98;refine(K.out.no hN).mono ?_;rintro e wx ⟨rfl,K⟩;clear hN;clear hrc hrf hsc hsf;obtain⟨hrc,hrf,hsc,hsf⟩:=K.out.cells)
  cases h2:cP sE l with
  |true=>
   have hlt:=bq h2;have hfe:4*l.tail.length+2<=f:=by omega
   go_wp2_with (go_at_call 98;refine(K.out.yes h2).mono ?_;rintro e wx ⟨rfl,K⟩;clear hrc hrf hsc hsf;obtain⟨hrc,hrf,hsc,hsf⟩:=K.out.cells)
   cases hx:bQ f 1 l.tail with
   |error p=>
    obtain⟨q,er⟩:=p;go_wp2_with (go_at_call 183;refine(K.out.xerr hEx hfe hx).mono ?_;unfold a6;rintro e wx ⟨rfl,HG⟩);exact⟨rfl,cW (by rw[dn,if_neg (by simp[h1]),if_pos h2,hx,bK]) HG.out⟩
   |ok p=>
    obtain⟨x,r⟩:=p;go_wp2_with (go_at_call 183;refine(K.out.expr hEx hfe hx).mono ?_;rintro e w3 ⟨A,n,c,rfl,K⟩;clear hrc hrf hsc hsf;obtain⟨hrc,hrf,hsc,hsf⟩:=K.out.cells);have hlx:=(iD f).1 _ _ _ _ hx;have hfb:4*r.length+1<=f:=by omega
    cases hb:dq f r with
    |error p=>
     obtain⟨q,er⟩:=p;go_wp2_with (go_at_call 104;refine(K.out.berr hBl hfb hb).mono ?_;unfold a6;rintro e wx ⟨rfl,HG⟩);exact⟨rfl,cW (by rw[dn,if_neg (by simp[h1]),if_pos h2,hx,then_ok,hb,bK]) HG.out⟩
    |ok p=>
     obtain⟨b,q⟩:=p;go_wp2_with (go_at_call 104;refine(K.out.block hBl hfb hb).mono ?_;rintro e wx ⟨B,m,d,rfl,K⟩;clear hrc hrf hsc hsf;obtain⟨hrc,hrf,hsc,hsf⟩:=K.out.cells);obtain⟨hset,hfin⟩:=K.out.fin (r:=dn (f+1) l) (.mk 5 [] [x] b []) 5 ⟨#[]⟩ (some ⟨w3.heap.size,0,none⟩) 1 1 B m d none 0 0 (by rw[dn,if_neg (by simp[h1]),if_pos h2,hx,then_ok,hb,then_ok]) rfl rfl (fun h=>⟨h.1.2.mono (fun b hb _=>by omega),h.2.mono (fun b hb _=>by omega), .nil _ _⟩);simp only[World.setCells,aD,Nat.reduceAdd]at hset hfin;exact bodyPost_ret (v:= .agg #[.int .i64 5, .string ⟨#[]⟩, .slice (some ⟨w3.heap.size,0,none⟩) 1 1, .slice B m d, .slice none 0 0]) (by simp[results,results148,go_sem,hset]) rfl hfin
  |false=>
   have hN:=h2;go_wp2_with (go_at_call 98;refine(K.out.no hN).mono ?_;rintro e wx ⟨rfl,K⟩;clear hN;clear hrc hrf hsc hsf;obtain⟨hrc,hrf,hsc,hsf⟩:=K.out.cells)
   cases h3:cP lL l with
   |true=>
    have hlt:=bq h3;go_wp2_with (go_at_call 98;refine(K.out.yes h3).mono ?_;rintro e wx ⟨rfl,K⟩;clear hrc hrf hsc hsf;obtain⟨hrc,hrf,hsc,hsf⟩:=K.out.cells);by_cases hk:(ci l.tail).k=1
    rotate_left
    ·go_wp2_with (go_at_call 101;refine(K.out.noname hk).mono ?_;unfold a6;rintro e wx ⟨rfl,HG⟩);exact⟨rfl,cW (by rw[dn,if_neg (by simp[h1]),if_neg (by simp[h2]),if_pos h3,ke hk,bK]) HG.out⟩
    have hlk:=gN (l:=l.tail) (by rw[hk];decide);go_wp2_with (go_at_call 101;refine(K.out.name hk).mono ?_;rintro e wx ⟨rfl,K⟩;clear hrc hrf hsc hsf;obtain⟨hrc,hrf,hsc,hsf⟩:=K.out.cells;have k:=K.out.put5 (by omega) (.int .i64 1) (.string (ai (ci l.tail).t)) (.slice none 0 0) (.slice none 0 0) (.slice none 0 0);simp only[World.setCells,aD,Nat.reduceAdd,be,bP,bX]at k;have K:=G k;clear k)
    cases he:cP Bb l.tail.tail with
    |true=>
     have hle:=bq he;have hfe:4*l.tail.tail.tail.length+2<=f:=by omega
     go_wp2_with (go_at_call 98;refine(K.out.yes he).mono ?_;rintro e wx ⟨rfl,K⟩;clear hrc hrf hsc hsf;obtain⟨hrc,hrf,hsc,hsf⟩:=K.out.cells)
     cases hx:bQ f 1 l.tail.tail.tail with
     |error p=>
      obtain⟨q,er⟩:=p;go_wp2_with (go_at_call 183;refine(K.out.xerr hEx hfe hx).mono ?_;unfold a6;rintro e wx ⟨rfl,HG⟩);exact⟨rfl,cW (by rw[dn,if_neg (by simp[h1]),if_neg (by simp[h2]),if_pos h3,bI hk,then_ok,if_pos he,hx,bK,bK]) HG.out⟩
     |ok p=>
      obtain⟨x,r⟩:=p;go_wp2_with (go_at_call 183;refine(K.out.expr hEx hfe hx).mono ?_;rintro e w3 ⟨A,n,c,rfl,K⟩;clear hrc hrf hsc hsf;obtain⟨hrc,hrf,hsc,hsf⟩:=K.out.cells;have k:=K.out.set (by omega) 2 (.slice (some ⟨w3.heap.size,0,none⟩) 1 1);simp only[World.setCells,aD,Nat.reduceAdd,be,bP,bX]at k;have K:=G k;clear k)
      cases hs:cP uY r with
      |true=>
       go_wp2_with (go_at_call 100;refine(K.out.want hs).mono ?_;rintro e wx ⟨rfl,K⟩;clear hrc hrf hsc hsf;obtain⟨hrc,hrf,hsc,hsf⟩:=K.out.cells);obtain⟨hset,hfin⟩:=K.out.fin (r:=dn (f+1) l) (.mk 1 (ci l.tail).t [x] [] []) 1 (ai (ci l.tail).t) (some ⟨w3.heap.size,0,none⟩) 1 1 none 0 0 none 0 0 (by rw[dn,if_neg (by simp[h1]),if_neg (by simp[h2]),if_pos h3,bI hk,then_ok,if_pos he,hx,then_ok,then_ok,cv hs,then_ok]) rfl rfl (fun h=>⟨h.2.mono (fun b hb _=>by omega), .nil _ _, .nil _ _⟩);simp only[World.setCells,aD,Nat.reduceAdd]at hset hfin;exact bodyPost_ret (v:= .agg #[.int .i64 1, .string (ai (ci l.tail).t), .slice (some ⟨w3.heap.size,0,none⟩) 1 1, .slice none 0 0, .slice none 0 0]) (by simp[results,results148,go_sem,hset]) rfl hfin
      |false=>
       go_wp2_with (go_at_call 100;refine(K.out.bad hs).mono ?_;unfold a6;rintro e wx ⟨rfl,HG⟩);exact⟨rfl,cW (by rw[dn,if_neg (by simp[h1]),if_neg (by simp[h2]),if_pos h3,bI hk,then_ok,if_pos he,hx,then_ok,then_ok,ew hs,bK]) HG.out⟩
    |false=>
     have hN:=he;go_wp2_with (go_at_call 98;refine(K.out.no hN).mono ?_;rintro e wx ⟨rfl,K⟩;clear hN;clear hrc hrf hsc hsf;obtain⟨hrc,hrf,hsc,hsf⟩:=K.out.cells)
     cases hs:cP uY l.tail.tail with
     |true=>
      go_wp2_with (go_at_call 100;refine(K.out.want hs).mono ?_;rintro e wx ⟨rfl,K⟩;clear hrc hrf hsc hsf;obtain⟨hrc,hrf,hsc,hsf⟩:=K.out.cells);obtain⟨hset,hfin⟩:=K.out.fin (r:=dn (f+1) l) (.mk 1 (ci l.tail).t [] [] []) 1 (ai (ci l.tail).t) none 0 0 none 0 0 none 0 0 (by rw[dn,if_neg (by simp[h1]),if_neg (by simp[h2]),if_pos h3,bI hk,then_ok,if_neg (by simp[he]),then_ok,cv hs,then_ok]) rfl rfl (fun _=>⟨.nil _ _, .nil _ _, .nil _ _⟩);simp only[World.setCells,aD,Nat.reduceAdd]at hset hfin;exact bodyPost_ret (v:= .agg #[.int .i64 1, .string (ai (ci l.tail).t), .slice none 0 0, .slice none 0 0, .slice none 0 0]) (by simp[results,results148,go_sem,hset]) rfl hfin
     |false=>
      go_wp2_with (go_at_call 100;refine(K.out.bad hs).mono ?_;unfold a6;rintro e wx ⟨rfl,HG⟩);exact⟨rfl,cW (by rw[dn,if_neg (by simp[h1]),if_neg (by simp[h2]),if_pos h3,bI hk,then_ok,if_neg (by simp[he]),then_ok,ew hs,bK]) HG.out⟩
   |false=>
    have hN:=h3;go_wp2_with (go_at_call 98;refine(K.out.no hN).mono ?_;rintro e wx ⟨rfl,K⟩;clear hN;clear hrc hrf hsc hsf;obtain⟨hrc,hrf,hsc,hsf⟩:=K.out.cells)
    cases h4:cP p_ l with
    |true=>
     have hlt:=bq h4;go_wp2_with (go_at_call 98;refine(K.out.yes h4).mono ?_;rintro e wx ⟨rfl,K⟩;clear hrc hrf hsc hsf;obtain⟨hrc,hrf,hsc,hsf⟩:=K.out.cells;have k:=K.out.put5 (by omega) (.int .i64 6) (.string ⟨#[]⟩) (.slice none 0 0) (.slice none 0 0) (.slice none 0 0);simp only[World.setCells,aD,Nat.reduceAdd,be,bP,bX]at k;have K:=G k;clear k)
     cases hs:cP uY l.tail with
     |true=>
      go_wp2_with (go_at_call 145;refine(K.out.is hs).mono ?_;rintro e wx ⟨rfl,K⟩;clear hrc hrf hsc hsf;obtain⟨hrc,hrf,hsc,hsf⟩:=K.out.cells);go_wp2_with (go_at_call 100;refine(K.out.want hs).mono ?_;rintro e wx ⟨rfl,K⟩;clear hrc hrf hsc hsf;obtain⟨hrc,hrf,hsc,hsf⟩:=K.out.cells);obtain⟨hset,hfin⟩:=K.out.fin (r:=dn (f+1) l) (.mk 6 [] [] [] []) 6 ⟨#[]⟩ none 0 0 none 0 0 none 0 0 (by rw[dn,if_neg (by simp[h1]),if_neg (by simp[h2]),if_neg (by simp[h3]),if_pos h4,if_pos hs,then_ok,cv hs,then_ok]) rfl rfl (fun _=>⟨.nil _ _, .nil _ _, .nil _ _⟩);simp only[World.setCells,aD,Nat.reduceAdd]at hset hfin;exact bodyPost_ret (v:= .agg #[.int .i64 6, .string ⟨#[]⟩, .slice none 0 0, .slice none 0 0, .slice none 0 0]) (by simp[results,results148,go_sem,hset]) rfl hfin
     |false=>
      have hfe:4*l.tail.length+2<=f:=by omega
      go_wp2_with (go_at_call 145;refine(K.out.is hs).mono ?_;rintro e wx ⟨rfl,K⟩;clear hrc hrf hsc hsf;obtain⟨hrc,hrf,hsc,hsf⟩:=K.out.cells)
      cases hx:bQ f 1 l.tail with
      |error p=>
       obtain⟨q,er⟩:=p;go_wp2_with (go_at_call 183;refine(K.out.xerr hEx hfe hx).mono ?_;unfold a6;rintro e wx ⟨rfl,HG⟩);exact⟨rfl,cW (by rw[dn,if_neg (by simp[h1]),if_neg (by simp[h2]),if_neg (by simp[h3]),if_pos h4,if_neg (by simp[hs]),hx,bK,bK]) HG.out⟩
      |ok p=>
       obtain⟨x,r⟩:=p;go_wp2_with (go_at_call 183;refine(K.out.expr hEx hfe hx).mono ?_;rintro e w3 ⟨A,n,c,rfl,K⟩;clear hrc hrf hsc hsf;obtain⟨hrc,hrf,hsc,hsf⟩:=K.out.cells;have k:=K.out.set (by omega) 2 (.slice (some ⟨w3.heap.size,0,none⟩) 1 1);simp only[World.setCells,aD,Nat.reduceAdd,be,bP,bX]at k;have K:=G k;clear k)
       cases ht:cP uY r with
       |true=>
        go_wp2_with (go_at_call 100;refine(K.out.want ht).mono ?_;rintro e wx ⟨rfl,K⟩;clear hrc hrf hsc hsf;obtain⟨hrc,hrf,hsc,hsf⟩:=K.out.cells);obtain⟨hset,hfin⟩:=K.out.fin (r:=dn (f+1) l) (.mk 6 [] [x] [] []) 6 ⟨#[]⟩ (some ⟨w3.heap.size,0,none⟩) 1 1 none 0 0 none 0 0 (by rw[dn,if_neg (by simp[h1]),if_neg (by simp[h2]),if_neg (by simp[h3]),if_pos h4,if_neg (by simp[hs]),hx,then_ok,then_ok,cv ht,then_ok]) rfl rfl (fun h=>⟨h.2.mono (fun b hb _=>by omega), .nil _ _, .nil _ _⟩);simp only[World.setCells,aD,Nat.reduceAdd]at hset hfin;exact bodyPost_ret (v:= .agg #[.int .i64 6, .string ⟨#[]⟩, .slice (some ⟨w3.heap.size,0,none⟩) 1 1, .slice none 0 0, .slice none 0 0]) (by simp[results,results148,go_sem,hset]) rfl hfin
       |false=>
        go_wp2_with (go_at_call 100;refine(K.out.bad ht).mono ?_;unfold a6;rintro e wx ⟨rfl,HG⟩);exact⟨rfl,cW (by rw[dn,if_neg (by simp[h1]),if_neg (by simp[h2]),if_neg (by simp[h3]),if_pos h4,if_neg (by simp[hs]),hx,then_ok,then_ok,ew ht,bK]) HG.out⟩
    |false=>
     have hfs:4*l.length+2<=f:=by omega
     have hN:=h4;go_wp2_with (go_at_call 98;refine(K.out.no hN).mono ?_;rintro e wx ⟨rfl,K⟩;clear hN;clear hrc hrf hsc hsf;obtain⟨hrc,hrf,hsc,hsf⟩:=K.out.cells)
     cases hc:fP f l with
     |error p=>
      obtain⟨q,er⟩:=p;go_wp2_with (go_at_call 184;refine(K.out.serr hEx hNa hfs hc).mono ?_;unfold a6;rintro e wx ⟨rfl,HG⟩);exact⟨rfl,cW (by rw[lm f l h1 h2 h3 h4,hc,bK]) HG.out⟩
     |ok p=>
      obtain⟨s,r⟩:=p;go_wp2_with (go_at_call 184;refine(K.out.simp hEx hNa hfs hc).mono ?_;rintro e wx ⟨A1,n1,c1,A2,n2,c2,A3,n3,c3,rfl,K⟩;clear hrc hrf hsc hsf;obtain⟨hrc,hrf,hsc,hsf⟩:=K.out.cells;have k:=K.out.put5 (by omega) (.int .i64 s.k) (.string (ai s.nm)) (.slice A1 n1 c1) (.slice A2 n2 c2) (.slice A3 n3 c3);simp only[World.setCells,aD,Nat.reduceAdd,be,bP,bX]at k;have K:=G k;clear k)
      cases hs:cP uY r with
      |true=>
       go_wp2_with (go_at_call 100;refine(K.out.want hs).mono ?_;rintro e wx ⟨rfl,K⟩;clear hrc hrf hsc hsf;obtain⟨hrc,hrf,hsc,hsf⟩:=K.out.cells);obtain⟨hset,hfin⟩:=K.out.fin (r:=dn (f+1) l) (s) s.k (ai s.nm) A1 n1 c1 A2 n2 c2 A3 n3 c3 (by rw[lm f l h1 h2 h3 h4,hc,then_ok,cv hs,then_ok]) rfl rfl (fun h=>h.2.keep ⟨ah _,fun _ _ _=>rfl⟩ (fun b hb _=>by omega));simp only[World.setCells,aD,Nat.reduceAdd]at hset hfin;exact bodyPost_ret (v:= .agg #[.int .i64 s.k, .string (ai s.nm), .slice A1 n1 c1, .slice A2 n2 c2, .slice A3 n3 c3]) (by simp[results,results148,go_sem,hset]) rfl hfin
      |false=>
       go_wp2_with (go_at_call 100;refine(K.out.bad hs).mono ?_;unfold a6;rintro e wx ⟨rfl,HG⟩);exact⟨rfl,cW (by rw[lm f l h1 h2 h3 h4,hc,then_ok,ew hs,bK]) HG.out⟩
theorem qK: ∀(f:Nat),f<=400000->(∀i,i<=f->yV i)/\ly f/\Cw f
 |0,_=>by
  refine⟨fun i hi=> ?_,?_,?_⟩
  ·obtain rfl:i=0:=by omega
   intro l en w g h hf;omega
  ·intro l en w g h hf;omega
  ·intro l en w g h hf;omega
 |f+1,hf=>by
  obtain⟨h1,h2,h3⟩:=qK f (by omega);have hE:=yf (f:=f) (by omega);have hS:=uQ f hE (vD (by omega)) h2 h3
  exact⟨fun i hi=>by
   rcases fh f i with h|h
   ·obtain rfl:i=f+1:=by omega
    exact hS
   ·exact h1 i h,th f (by omega) h1,An f hE h2 h3⟩
theorem pE {f:Nat} (hf:f<=400000):ly f:=(qK f hf).2.1
end
section
open Go.RowKit
theorem PA.set2 {w:World} {g:Nat} {l:List bN} {en:Int} {ps i:Nat} {v:Value} (h:PA w g l en) (hp:g<ps): ∃A c,aL w g 155 #[.slice A l.length c, .int .i64 en]/\aL (w.setCell ⟨ps,i,none⟩ v) g 155 #[.slice A l.length c, .int .i64 en]/\uv (w.setCell ⟨ps,i,none⟩ v) A c l/\ ∀b off,A=some ⟨b,off,none⟩->l≠ []->b<g:=by
 obtain⟨A,c,hb,ht,hn⟩:=h.grown (eC w ps i v) (fun k e=>by injection e with e;omega);refine⟨A,c,?_,hb,ht,hn⟩;exact(Below.heap_setCell w ⟨ps,i,none⟩ v g (by show g≠ps;omega)).symm.trans hb
def AU (g:Nat) (en:Int) (w:World) (r:PR Vr) (e:Ending) (w':World):Prop:=
 w.grownBy w' (some g)/\match r with
 | .ok (v,q)=>e= .returned (.agg #[.string (ai v.nm), .int .i64 v.sz])/\PA w' g q en
 | .error (q,n)=>e=a6 en q n
theorem ju {g:Nat} {en:Int} {w w':World} {r:PR Vr} {q:List bN} {n:Int} (hr:r= .error (q,n)) (hG:w.grownBy w' (some g)):AU g en w r (a6 en q n) w':=by
 subst hr;exact⟨hG,rfl⟩
theorem Cb {w W:World} {g pr:Nat} {en:Int} {q:List bN} {z0 z1:Value} {r:PR Vr} (v:Vr) (sn:ByteArray) (z:Int) (hr:r= .ok (v,q)) (hn:ai v.nm=sn) (hz:v.sz=z) (hpr:w.heap.size<=pr) (hB:aL W pr 85 #[z0,z1]) (hG:w.grownBy W (some g)) (hPA:PA W g q en) (hg:g<w.heap.size):
  (∀o,(W.setCells pr 0 [.string sn, .int .i64 z]).cell? ⟨pr,o,none⟩=(#[.string sn, .int .i64 z]:Array Value)[o]?)/\AU g en w r (.returned (.agg #[.string sn, .int .i64 z])) (W.setCells pr 0 [.string sn, .int .i64 z]):=by
 subst hr hn hz;have hc:=dr pr [.string (ai v.nm), .int .i64 v.sz] 0 W;have hb:=(hB.set 0 (.string (ai v.nm))).set 1 (.int .i64 v.sz);exact⟨fun o=>by have:=hb.cell o;simpa[World.setCells]using this,dx hG hc hpr,rfl,hPA.grown hc fun k e=>by injection e with e;omega⟩
section
variable {w W W':World} {g pb sb:Nat} {en:Int} {pc sc:Array Value} {ty:TypeId} {X:World->Prop} {l l':List bN}
theorem SK.next (K:SK w g en pb pc sb sc ty X l W) {k v fr:Int} {tx:List UInt8} (h:ci l=⟨k,tx,v,fr⟩):Calls prog 146 #[.pointer (some ⟨g,0,none⟩)] W fun e W'=>e= .returned (.agg #[.int .i64 k, .string (ai tx), .int .i64 v, .int .i64 fr])/\Hid (SK w g en pb pc sb sc ty X l (W'.alloc (.cells #[.int .i64 k, .string (ai tx), .int .i64 v, .int .i64 fr] 206))):=by
 have:=d_ g l en W K.pa;rw[h]at this;exact this.mono fun e W' hh=>⟨hh.1,G (K.ext (hh.2.alloc' _))⟩
theorem SK.fail (K:SK w g en pb pc sb sc ty X l W) (n:Int):Calls prog 147 #[.pointer (some ⟨g,0,none⟩), .int .i64 n] W fun e W'=>e=a6 en l n/\Hid (w.grownBy W' (some g)):=
 (ol g l en n W K.pa).mono fun e W' hh=>⟨hh.1,G (am K.gr (hh.2.grownBy _))⟩
theorem SK.finV {z0 z1:Value} (K:SK w g en w.heap.size #[z0,z1] sb sc 85 X l W) {r:PR Vr} (v:Vr) (sn:ByteArray) (z:Int) (hr:r= .ok (v,l)) (hn:ai v.nm=sn) (hz:v.sz=z):
  (∀o,(W.setCells w.heap.size 0 [.string sn, .int .i64 z]).cell? ⟨w.heap.size,o,none⟩=(#[.string sn, .int .i64 z]:Array Value)[o]?)/\AU g en w r (.returned (.agg #[.string sn, .int .i64 z])) (W.setCells w.heap.size 0 [.string sn, .int .i64 z]):=
 Cb v sn z hr hn hz (ah _) K.rb K.gr K.pa K.nn.1
end
theorem tB (l:List bN) (en:Int) (w:World) (g:Nat) (h:PA w g l en):Calls prog 99 #[.pointer (some ⟨g,0,none⟩)] w (AU g en w (ja l)):=by
 have hgl:=h.lt;have K:=G (SK.one h #[.string ⟨#[]⟩, .int .i64 0] 85);have hrg:w.heap.size≠g:=by omega
 have hgr:g≠w.heap.size:=by omega
 obtain⟨hrc,hrf,hsc,hsf⟩:=K.out.cells;clear h;go_enter func99,ntmps99;by_cases hk:(ci l).k=1
 rotate_left
 ·go_wp2_with (go_at_call 101;refine(K.out.noname hk).mono ?_;unfold a6;rintro e wx ⟨rfl,HG⟩);exact⟨rfl,ju (by unfold ja;rw[ke hk,bK]) HG.out⟩
 go_wp2_with (go_at_call 101;refine(K.out.name hk).mono ?_;rintro e w1 ⟨rfl,K⟩;have hz1:=K.out.rb.lt;have K:=G (K.out.open (Y:=fun _=>True) #[.string (ai (ci l).t), .int .i64 0] (fun _=>trivial) fun _ _ _ _ _ _=>trivial);have hsg:w1.heap.size≠g:=(by omega);have hgs:g≠w1.heap.size:=(by omega);have hps:w.heap.size≠w1.heap.size:=(by omega);have hsp:w1.heap.size≠w.heap.size:=(by omega);clear hrc hrf hsc hsf;obtain⟨hrc,hrf,hsc,hsf⟩:=K.out.cells)
 cases hb:cP p' l.tail with
 |true=>
  go_wp2_with (go_at_call 98;refine(K.out.yes hb).mono ?_;rintro e wx ⟨rfl,K⟩;clear hrc hrf hsc hsf;obtain⟨hrc,hrf,hsc,hsf⟩:=K.out.cells);obtain⟨⟨k,tx,v,fr⟩,hdt⟩: ∃t,ci l.tail.tail=t:=⟨_,rfl⟩
  by_cases h3:k=3
  rotate_left
  ·have hb3:(k==3)=false:=beq_eq_false_iff_ne.2 h3;have hb3n:(k !=3)=true:=by rw[bne,hb3];rfl
   go_wp2_with (go_at_call 146;refine(K.out.next hdt).mono ?_;rintro e wx ⟨rfl,K⟩;clear hrc hrf hsc hsf;obtain⟨hrc,hrf,hsc,hsf⟩:=K.out.cells);go_wp2_with (go_at_call 147;refine(K.out.fail 3).mono ?_;unfold a6;rintro e wx ⟨rfl,HG⟩);exact⟨rfl,ju (by unfold ja;rw[bI hk,then_ok,if_pos hb,hdt];dsimp only;rw[if_neg h3,bK]) HG.out⟩
  subst h3;by_cases hv1: ¬v<1
  rotate_left
  ·have hv1:v<1:=by omega
   go_wp2_with (go_at_call 146;refine(K.out.next hdt).mono ?_;rintro e wx ⟨rfl,K⟩;clear hrc hrf hsc hsf;obtain⟨hrc,hrf,hsc,hsf⟩:=K.out.cells);go_wp2_with (go_at_call 147;refine(K.out.fail 2).mono ?_;unfold a6;rintro e wx ⟨rfl,HG⟩);exact⟨rfl,ju (by unfold ja;rw[bI hk,then_ok,if_pos hb,hdt];dsimp only;rw[if_pos rfl,if_pos (.inl hv1),bK]) HG.out⟩
  by_cases hv2: ¬2000<v
  rotate_left
  ·have hv2:2000<v:=by omega
   go_wp2_with (go_at_call 146;refine(K.out.next hdt).mono ?_;rintro e wx ⟨rfl,K⟩;clear hrc hrf hsc hsf;obtain⟨hrc,hrf,hsc,hsf⟩:=K.out.cells);go_wp2_with (go_at_call 147;refine(K.out.fail 2).mono ?_;unfold a6;rintro e wx ⟨rfl,HG⟩);exact⟨rfl,ju (by unfold ja;rw[bI hk,then_ok,if_pos hb,hdt];dsimp only;rw[if_pos rfl,if_pos (.inr hv2),bK]) HG.out⟩
  obtain⟨t0,r,hlr⟩:=lV (show(ci l.tail.tail).k=3 by rw[hdt]) (by decide);obtain rfl:t0=⟨3,tx,v,fr⟩:=by rw[hlr]at hdt;exact hdt
  have hrt:l.tail.tail.tail=r:=by rw[hlr];rfl
  go_wp2_with (go_at_call 146;refine(K.out.next hdt).mono ?_;rintro e wx ⟨rfl,K⟩;clear hrc hrf hsc hsf;obtain⟨hrc,hrf,hsc,hsf⟩:=K.out.cells;have hpp:=K.out.pa;rw[hlr]at hpp;obtain⟨A,c,hb0,hb1,ht,hn⟩:=hpp.set2 (ps:=w1.heap.size) (i:=1) (v:= .int .i64 v) (by omega);obtain⟨b,off,rfl,hlt,_⟩:=ht.at_ 0 (by simp);have hbc:=hb0.cell;have hbf:=hb0.frozen;rw[hlr]at K;clear hpp hb0);all_goals
   first|have hq:=PA.next_a hb1 ht (hn b off rfl (by simp)) hlt (by assumption)|have hq:=PA.next_b hb1 ht (hn b off rfl (by simp)) hlt (by assumption)
   have k:=(K.out.set (by omega) 1 (.int .i64 v)).step hq.1 hq.2;simp only[be,bP,bX]at k;have K:=G k;clear hb1 ht hn hlt hbc hbf hrc hrf hsc hsf hq k;generalize World.setCell _ _ _=w4 at*
   cases hr:cP rW r with
   |true=>
    obtain⟨hrc,hrf,hsc,hsf⟩:=K.out.cells;go_wp2_with (go_at_call 100;refine(K.out.want hr).mono ?_;rintro e wx ⟨rfl,K⟩;clear hrc hrf hsc hsf;obtain⟨hrc,hrf,hsc,hsf⟩:=K.out.cells)
    cases hs:cP uY r.tail with
    |true=>
     go_wp2_with (go_at_call 100;refine(K.out.want hs).mono ?_;rintro e wx ⟨rfl,K⟩;clear hrc hrf hsc hsf;obtain⟨hrc,hrf,hsc,hsf⟩:=K.out.cells);obtain⟨hset,hfin⟩:=K.out.finV (r:=ja l) (⟨(ci l).t,v⟩) (ai (ci l).t) v (by unfold ja;rw[bI hk,then_ok,if_pos hb,hdt];dsimp only;rw[if_pos rfl,if_neg (by omega),hrt,cv hr,then_ok,then_ok,cv hs,then_ok]) rfl rfl;simp only[World.setCells,aD]at hset hfin;exact bodyPost_ret (v:= .agg #[.string (ai (ci l).t), .int .i64 v]) (by simp[results,results99,go_sem,hset]) rfl hfin
    |false=>
     go_wp2_with (go_at_call 100;refine(K.out.bad hs).mono ?_;unfold a6;rintro e wx ⟨rfl,HG⟩);exact⟨rfl,ju (by unfold ja;rw[bI hk,then_ok,if_pos hb,hdt];dsimp only;rw[if_pos rfl,if_neg (by omega),hrt,cv hr,then_ok,then_ok,ew hs,bK]) HG.out⟩
   |false=>
    go_wp2_with (go_at_call 100;refine(K.out.bad hr).mono ?_;unfold a6;rintro e wx ⟨rfl,HG⟩);exact⟨rfl,ju (by unfold ja;rw[bI hk,then_ok,if_pos hb,hdt];dsimp only;rw[if_pos rfl,if_neg (by omega),hrt,ew hr,bK,bK]) HG.out⟩
 |false=>
  have hN:=hb;go_wp2_with (go_at_call 98;refine(K.out.no hN).mono ?_;rintro e wx ⟨rfl,K⟩;clear hN;clear hrc hrf hsc hsf;obtain⟨hrc,hrf,hsc,hsf⟩:=K.out.cells)
  cases hs:cP uY l.tail with
  |true=>
   go_wp2_with (go_at_call 100;refine(K.out.want hs).mono ?_;rintro e wx ⟨rfl,K⟩;clear hrc hrf hsc hsf;obtain⟨hrc,hrf,hsc,hsf⟩:=K.out.cells);obtain⟨hset,hfin⟩:=K.out.finV (r:=ja l) (⟨(ci l).t,0⟩) (ai (ci l).t) 0 (by unfold ja;rw[bI hk,then_ok,if_neg (by simp[hb]),then_ok,cv hs,then_ok]) rfl rfl;simp only[World.setCells,aD]at hset hfin;exact bodyPost_ret (v:= .agg #[.string (ai (ci l).t), .int .i64 0]) (by simp[results,results99,go_sem,hset]) rfl hfin
  |false=>
   go_wp2_with (go_at_call 100;refine(K.out.bad hs).mono ?_;unfold a6;rintro e wx ⟨rfl,HG⟩);exact⟨rfl,ju (by unfold ja;rw[bI hk,then_ok,if_neg (by simp[hb]),then_ok,ew hs,bK]) HG.out⟩
end
section
open Go.RowKit
def lC (w:World) (P:Nat->Prop) (v:Value) (ls:List (List UInt8)):Prop:=
 ∃A c,v= .slice A ls.length c/\(ls=[]\/ls.length<=c/\c<=maxLen/\ ∃b o,A=some ⟨b,o,none⟩/\P b/\b<w.heap.size/\ ∀i,(h:i<ls.length)->w.cell? ⟨b,o+i,none⟩=some (.string (ai ls[i])))
theorem lC.nil_ (w:World) (P:Nat->Prop):lC w P (.slice none 0 0) []:=⟨none,0,rfl, .inl rfl⟩
theorem lC.keep {w w':World} {P Q:Nat->Prop} {v:Value} {ls:List (List UInt8)} (h:lC w P v ls) (hk:cC P w w') (hQ: ∀b,P b->b<w.heap.size->Q b):lC w' Q v ls:=by
 obtain⟨A,c,rfl,h⟩:=h;refine⟨A,c,rfl,h.imp id fun⟨h1,h2,b,o,ha,hP,hb,hc⟩=>⟨h1,h2,b,o,ha,hQ b hP hb,aA hb hk.size,fun i hi=>(hk.cell _ hP hb).trans (hc i hi)⟩⟩
theorem lC.mono {w:World} {P Q:Nat->Prop} {v:Value} {ls:List (List UInt8)} (h:lC w P v ls) (hQ: ∀b,P b->b<w.heap.size->Q b):lC w Q v ls:=h.keep ⟨ah _,fun _ _ _=>rfl⟩ hQ
def pi (ls:List (List UInt8)):List Value:=ls.map fun x=> .string (ai x)
def tu (w:World) (base:Nat) (v:Value) (ls:List (List UInt8)):Prop:=w.ownsRow base 9 1 v ls.length (pi ls)
theorem tu.rd {w:World} {base:Nat} {v:Value} {ls:List (List UInt8)} (h:tu w base v ls):lC w (fun b=>base<=b) v ls:=by
 rcases h.2 with⟨rfl,h0⟩|⟨g,cap,cur,rfl,hb,hg,hnc,hcm,hcs,ht⟩
 ·have:ls=[]:=aJ h0;subst this;exact .nil_ _ _
 ·refine⟨_,cap,rfl, .inr ⟨hnc,hcm,g,0,rfl,hb,(Array.getElem?_eq_some_iff.1 hg).1,fun i hi=> ?_⟩⟩;rw[aD,cell_of_row w g i cur 9 (0,0) hg];have h3:(pi ls)[i]? =some (.string (ai ls[i])):=by simp[pi,hi]
  rw[<-ht,cH]at h3;rw[if_pos (by omega)]at h3;simpa using h3
theorem ET:nf prog 56 9 1 16 (.string ⟨#[]⟩):=⟨underlying56,by kernel_rfl,by rfl,by decide⟩
theorem xE (base g pf pb:Nat) (nm:List UInt8) (l:List bN) (en:Int) (w:World) (C:Option Addr) (n cap:Nat)
  (hP:PA w g l en) (hb:aL w pb 153 #[.pointer (some ⟨g,0,none⟩)]) (hx:aL w pf 59 #[.string (ai nm), .slice C n cap, .slice none 0 0])
  (hbase:base<=w.heap.size) (hg:g<pf) (hgp:g<pb) (hk: ¬(ci l).k=1):
  Calls prog 103 #[.pointer (some ⟨pf,0,none⟩), .pointer (some ⟨pb,0,none⟩)] w fun e w'=>e=a6 en l 3/\Fr base g pf w w':=by
 have HP:=G hP;have HB:=G hb;have HX:=G hx;have hgw:g<w.heap.size:=hP.lt;have hxg:pf≠g:=by omega
 have hbg:pb≠g:=by omega
 clear hP hb hx;go_enter func103,ntmps103;refine bR 5 0 [(3,fun v=>v= .string ⟨#[]⟩,fun _ _=>False),(4,fun v=> ∃gb,v= .slice (some ⟨gb,0,none⟩) 1 1,fun _ _=>True)] 3 (some g) mixed (by kernel_rfl)
  ⟨fun _ _ _ h _=>h,fun _ _ _ h _=>h,trivial⟩ ⟨.inl rfl, .inr fun _ _ _ h _=>h,trivial⟩ ?_
 repeat (refine sx ?_ (fun w1 hU=> ?_) ?_;rotate_left;(focus have f1:=(HX.out.grown (aB hU) (fun e=>hxg (Z e))).cell;have f2:=(HB.out.grown (aB hU) (fun e=>hbg (Z e))).cell;clear hU;go_simp<;>with_reducible rfl);simp only[aY,aX,aW,aV,aU])
 refine bH _ _ (by rfl) rfl ⟨_,rfl⟩ rfl (fun w6 hT hp K hK=> ?_) ?_
 ·clear hp;have hc:=oa g l en w6 (HP.out.ext hT.un) hk;have HT6:=G hT.un;clear hT;go_simp;refine hc.mono ?_;unfold a6;rintro e w7 ⟨rfl,hG⟩;intro a' hd;exact⟨hd,rfl,cM (am (HT6.out.grownBy _) hG) hbase (fun k e=>by injection e with e;omega)⟩
 rintro _ rfl;simp only[aY,aX,aW,aV,aU];refine bJ _ _ (by rfl) rfl ⟨_,0,rfl⟩ (by simp) (fun w6 hU hp K hK=> ?_) ?_
 ·clear hp;go_simp;exact hK _ _ (O w6 _) ⟨_,rfl⟩ trivial
 rintro _ ⟨gb,rfl⟩;simp only[aY,aX,aW,aV,aU];intro w8 hw8 hp;exact(hp _ (.tail _ (.head _))).elim
theorem zS (base g pf pb:Nat) (nm:List UInt8) (l:List bN) (en:Int) (w:World) (acc:List (List UInt8)) (C:Option Addr) (n cap:Nat)
  (hP:PA w g l en) (hb:aL w pb 153 #[.pointer (some ⟨g,0,none⟩)]) (hx:aL w pf 59 #[.string (ai nm), .slice C n cap, .slice none 0 0])
  (hO:tu w base (.slice C n cap) acc) (hn:acc.length=n) (hbase:base<=w.heap.size) (hg:g<pf) (hgp:g<pb) (hpf:pf<base) (hnb:n<=100000) (hk:(ci l).k=1):
  Calls prog 103 #[.pointer (some ⟨pf,0,none⟩), .pointer (some ⟨pb,0,none⟩)] w fun e w'=>e= .returned (.tuple #[])/\Fr base g pf w w'/\PA w' g l.tail en/\
   ∃C' cap',aL w' pf 59 #[.string (ai nm), .slice C' (n+1) cap', .slice none 0 0]/\tu w' base (.slice C' (n+1) cap') (acc++[(ci l).t]):=by
 have HP:=G hP;have HB:=G hb;have HX:=G hx;have HO:=G (show w.ownsRow base 9 1 (.slice C n cap) n (pi acc) by have:=hO;unfold tu at this;rwa [hn]at this);have hgw:g<w.heap.size:=hP.lt;have hxg:pf≠g:=by omega
 have hbg:pb≠g:=by omega
 clear hP hb hx hO;go_enter func103,ntmps103;refine bR 5 0 [(3,fun v=>v= .string (ai (ci l).t),fun v wx=>PA wx g l.tail en),(4,fun v=> ∃gb,v= .slice (some ⟨gb,0,none⟩) 1 1,fun v wx=> ∀gb,v= .slice (some ⟨gb,0,none⟩) 1 1->w.heap.size<=gb/\aL wx gb 9 #[.string (ai (ci l).t)])] 3 (some g) mixed (by kernel_rfl)
  ⟨fun _ _ _ h hx=>h.ext hx,fun _ _ _ h hx gb e=>⟨(h gb e).1,(h gb e).2.ext hx⟩,trivial⟩ ⟨.inl rfl, .inr fun _ _ _ h hx gb e=>⟨(h gb e).1,(h gb e).2.grown hx (fun e'=>by have:=(h gb e).1;injection e' with e';omega)⟩,trivial⟩ ?_
 repeat (refine sx ?_ (fun w1 hU=> ?_) ?_;rotate_left;(focus have f1:=(HX.out.grown (aB hU) (fun e=>hxg (Z e))).cell;have f2:=(HB.out.grown (aB hU) (fun e=>hbg (Z e))).cell;clear hU;go_simp<;>with_reducible rfl);simp only[aY,aX,aW,aV,aU])
 refine bH _ _ (by rfl) rfl ⟨_,rfl⟩ rfl (fun w6 hT hp K hK=> ?_) ?_
 ·clear hp;have hc:=iv g l en w6 (HP.out.ext hT.un) hk;clear hT;go_simp;refine hc.mono ?_;rintro e w7 ⟨rfl,h1,hG⟩;exact hK _ _ hG rfl h1
 rintro _ rfl;simp only[aY,aX,aW,aV,aU];refine bJ _ _ (by rfl) rfl ⟨_,0,rfl⟩ (by simp) (fun w6 hU hp K hK=> ?_) ?_
 ·have hz6:=(aB hU).size;clear hp hU;go_simp;exact hK _ _ (O w6 _) ⟨_,rfl⟩ (fun gb e=>by injection e with e;injection e with e;injection e with e;subst e;exact⟨hz6,an w6 _ _⟩)
 rintro _ ⟨gb,rfl⟩;simp only[aY,aX,aW,aV,aU];intro w8 hw8 hp;obtain⟨hgb,hB3⟩:=hp _ (.head _) gb rfl;have h3:=hp _ (.tail _ (.head _));clear hp;simp only[ac,ap];have hw8:=aB hw8;have hz8:=hw8.size;have hrow:=World.ownsRow.lt HO.out;have hrw:=fun k hk=>(hrow k hk).1
 have hO8:=HO.out.kept hw8 (by
  cases ho:Value.ownBlock (.slice C n cap)with
  |none=>exact .inl rfl
  |some k=>exact .inr fun e=>by have:=hrw k ho;injection e with e;omega)
 have HF8:=G (cM hw8 hbase (fun k e=>by injection e with e;omega):Fr base g pf w w8);have HX8:=G (HX.out.grown hw8 (fun e=>hxg (Z e)));have HP8:=G (show PA w8 g l.tail en from h3);clear hw8 h3 hrow;refine eW ET rfl _ _ rfl base _ n (pi acc) rfl hO8 gb [.string (ai (ci l).t)] rfl hB3 rfl (by simp[Value.oneCell']) (by omega) (by decide) (by omega) ?_;intro A' cap' w9 hq1 hq2 hq3;have hx9:=HX8.out.grown hq2 (fun e=>by have:=hrw _ e.symm;omega);have hp9:=HP8.out.grown hq2 (fun k e=>by have:=hrw k e;omega);have hF9:=HF8.out.trans (cM hq2 (by omega) (fun k e=> .inr (.inr (hrw k e))));have hxc:=hx9.cell;have hxf:=hx9.frozen;have hs:=eC w9 pf 1 (.slice (some ⟨A',0,none⟩) (n+1) cap');have hz9:=hq2.size;have hb9:base<=w9.heap.size:=by omega
 have hAb:base<=A':=by
  rcases hq3 with h|h
  ·exact hrw A' h.symm
  ·omega
 have HX9:=G (hx9.set 1 (.slice (some ⟨A',0,none⟩) (n+1) cap'));have HP9:=G (hp9.grown hs (fun k e=>by injection e with e;omega));have HF9:=G (hF9.trans (cM hs hb9 (fun k e=> .inr (.inl (Z e).symm))));have HO9:=G (World.ownsRow.kept hq1 hs (.inr (fun e=>by have e:A'=pf:=Z e;omega)));clear hq1 hq2 hq3 hs hF9 hp9 hx9 hO8 hB3;go_wp2_with fail
 go_end0
 refine⟨rfl,HF9.out,HP9.out,some ⟨A',0,none⟩,cap',by simpa using HX9.out,?_⟩;have:=HO9.out;unfold tu;rw[aa,hn];simpa[pi]using this
def Eu (base g pf:Nat) (nm:List UInt8) (en:Int) (w:World) (r:PR (List (List UInt8))) (e:Ending) (w':World):Prop:=
 Fr base g pf w w'/\match r with
 | .ok (a,q)=>e= .returned (.tuple #[])/\PA w' g q en/\ ∃C n cap,aL w' pf 59 #[.string (ai nm), .slice C n cap, .slice none 0 0]/\lC w' (fun b=>base<=b) (.slice C n cap) a
 | .error (q,n)=>e=a6 en q n
theorem lp (f:Nat) (base g pf pb:Nat) (nm:List UInt8) (l:List bN) (en:Int) (w:World)
  (hP:PA w g l en) (hb:aL w pb 153 #[.pointer (some ⟨g,0,none⟩)]) (hx:aL w pf 59 #[.string (ai nm), .slice none 0 0, .slice none 0 0])
  (hbase:base<=w.heap.size) (hg:g<pf) (hgp:g<pb) (hpp:pb≠pf) (hpf:pf<base) (hpb:pb<base) (hf:l.length+1<=f) (hnb:l.length<=100000):
  Calls prog 102 #[.pointer (some ⟨g,0,none⟩), .func (Fn.func 103) #[] #[.pointer (some ⟨pf,0,none⟩), .pointer (some ⟨pb,0,none⟩)]] w (Eu base g pf nm en w (eX f l)):=by
 have HP:=G hP;have HB:=G hb;have HX:=G hx;have HG:=G (ch g l en kA w hP);clear hP hb hx
 cases hrp:cP kA l with
 |true=>
  rw[hrp]at HG;simp only[if_true]at HG;have HR:=G (show eX f l= .ok ([],l.tail)from by unfold eX;rw[if_pos hrp]);go_enter func102,ntmps102;go_wp2_with (go_at_call 98;refine HG.out.mono ?_;rintro e w1 ⟨rfl,h1,h2⟩;have H1:=G h1;have H2:=G h2;clear h1 h2 HG)
  go_end0
  rw[HR.out];exact⟨cM H2.out hbase (fun k e=>by injection e with e;omega),rfl,H1.out,_,_,_,HX.out.grown H2.out (fun e=>by injection e with e;omega), .nil_ _ _⟩
 |false=>
  rw[hrp]at HG;simp only[aN,if_false]at HG;have HR:=G (show eX f l=eQ f [] l from by unfold eX;rw[if_neg (by rw[hrp];simp)]);go_enter func102,ntmps102;go_wp2_with (go_at_call 98;refine HG.out.mono ?_;rintro e w1 ⟨rfl,h1,h2⟩;have H1:=G h1;have H2:=G h2;clear h1 h2 HG)
  go_loopw [] (fun wr=> ∃(k:Nat) (acc:List (List UInt8)) (r:List bN) (C:Option Addr) (n cap:Nat),r.length+1<=k/\acc.length=n/\n+r.length<=l.length/\Hid (eQ k acc r=eX f l)/\Hid (PA wr g r en)/\Hid (aL wr pf 59 #[.string (ai nm), .slice C n cap, .slice none 0 0])/\
   Hid (tu wr base (.slice C n cap) acc)/\Hid (Fr base g pf w wr)) (fun wr=>tokN g wr)
  case atStart=>exact⟨f,[],l,none,0,0,hf,rfl,by omega,G HR.out.symm,H1,G (HX.out.grown H2.out (fun e=>by injection e with e;omega)),G (World.ownsRow_nil _ _ _ _),G (cM H2.out hbase (fun k e=>by injection e with e;omega))⟩
  case round=>
   obtain⟨k,acc,r,C,n,cap,hk,hn,hnl,HRes,HPr,HXr,HOr,HFr⟩:=hrel;obtain⟨k,rfl⟩: ∃k',k=k'+1:=⟨k-1,by omega⟩
   have HBr:=G (HFr.out.blk HB.out hpb (by omega) (by omega));have hbr:base<=wr.heap.size:=by have:=HFr.out.size;omega
   have HSt:=G (show eQ (k+1) acc r=(h_ r).then fun x q=>if cP kA q then .ok (acc++[x],q.tail)else(bV xd q).then fun _ q=>eQ k (acc++[x]) q from by rw[eQ]);by_cases hkn:(ci r).k=1
   rotate_left
   ·have HRR:=G (show eX f l= .error (r,3)from by rw[<-HRes.out,HSt.out,ke hkn];rfl);have HC:=G (xE base g pf pb nm r en wr C n cap HPr.out HBr.out HXr.out hbr hg hgp hkn);unfold a6 at HC;go_wp2_with (go_at_call 103;refine HC.out.mono ?_;rintro e w3 ⟨rfl,hF⟩;have HF3:=G (HFr.out.trans hF);clear hF HC);exact⟨rfl,by rw[HRR.out];exact⟨HF3.out,rfl⟩⟩
   ·have hlt:=gN (l:=r) (by rw[hkn];decide);have HC:=G (zS base g pf pb nm r en wr acc C n cap HPr.out HBr.out HXr.out HOr.out hn hbr hg hgp hpf (by omega) hkn);have HS2:=G (show eX f l=if cP kA r.tail then .ok (acc++[(ci r).t],r.tail.tail)else(bV xd r.tail).then fun _ q=>eQ k (acc++[(ci r).t]) q from by rw[<-HRes.out,HSt.out,bI hkn];rfl);clear HRes HSt
    cases hr2:cP kA r.tail with
    |true=>
     have HRR:=G (show eX f l= .ok (acc++[(ci r).t],r.tail.tail)from by rw[HS2.out,if_pos hr2])
     go_wp2_with (first
      |(go_at_call 103;refine HC.out.mono ?_;rintro e w3 ⟨rfl,hF,hP3,C3,cap3,hX3,hO3⟩;have HF3:=G (HFr.out.trans hF);have HP3:=G hP3;have HX3:=G hX3;have HO3:=G hO3;clear hF HC hP3 hX3 hO3)
      |(go_at_call 98;refine(ch g r.tail en kA _ HP3.out).mono ?_;rw[hr2];simp only[if_true];rintro e w4 ⟨rfl,h1,h2⟩;have HP4:=G h1;have HG4:=G h2;clear h1 h2))
     go_end0
     rw[HRR.out];have hb3:base<=w3.heap.size:=by have:=HF3.out.size;omega
     exact⟨HF3.out.trans (cM HG4.out hb3 (fun k e=>by injection e with e;omega)),rfl,HP4.out,_,_,_,HX3.out.grown HG4.out (fun e=>by injection e with e;omega),HO3.out.rd.keep (.of_grown HG4.out fun b hb e=>by injection e with e;omega) (fun _ hb _=>hb)⟩
    |false=>
     cases hcm:cP xd r.tail with
     |false=>
      have HRR:=G (show eX f l= .error (r.tail,3)from by rw[HS2.out,if_neg (by rw[hr2];simp),ew hcm];rfl)
      go_wp2_with (first
       |(go_at_call 103;refine HC.out.mono ?_;rintro e w3 ⟨rfl,hF,hP3,C3,cap3,hX3,hO3⟩;have HF3:=G (HFr.out.trans hF);have HP3:=G hP3;clear hF HC hP3 hX3 hO3)
       |(go_at_call 98;refine(ch g r.tail en kA _ HP3.out).mono ?_;rw[hr2];simp only[aN,if_false];rintro e w4 ⟨rfl,h1,h2⟩;have HP4:=G h1;have HG4:=G h2;clear h1 h2 HP3)
       |(go_at_call 100;refine(fT g r.tail en xd _ HP4.out hcm).mono ?_;unfold a6;rintro e w5 ⟨rfl,hG⟩;have HG5:=G (am HG4.out hG);clear hG))
      have hb3:base<=w3.heap.size:=by have:=HF3.out.size;omega
      exact⟨rfl,by rw[HRR.out];exact⟨HF3.out.trans (cM HG5.out hb3 (fun k e=>by injection e with e;omega)),rfl⟩⟩
     |true=>
      have HRR:=G (show eQ k (acc++[(ci r).t]) r.tail.tail=eX f l from by rw[HS2.out,if_neg (by rw[hr2];simp),cv hcm];rfl);have hqt:=bq hcm
      go_wp2_with (first
       |(go_at_call 103;refine HC.out.mono ?_;rintro e w3 ⟨rfl,hF,hP3,C3,cap3,hX3,hO3⟩;have HF3:=G (HFr.out.trans hF);have HP3:=G hP3;have HX3:=G hX3;have HO3:=G hO3;clear hF HC hP3 hX3 hO3)
       |(go_at_call 98;refine(ch g r.tail en kA _ HP3.out).mono ?_;rw[hr2];simp only[aN,if_false];rintro e w4 ⟨rfl,h1,h2⟩;have HP4:=G h1;have HG4:=G h2;clear h1 h2 HP3)
       |(go_at_call 100;refine(d8 g r.tail en xd _ HP4.out hcm).mono ?_;rintro e w5 ⟨rfl,h1,h2⟩;have HP5:=G h1;have HG5:=G (am HG4.out h2);clear h1 h2))
      have hb3:base<=w3.heap.size:=by have:=HF3.out.size;omega
      have hrow:=World.ownsRow.lt HO3.out;go_roundw
      case rel=>exact⟨k,acc++[(ci r).t],r.tail.tail,C3,n+1,cap3,by omega,by simp[hn],by omega,HRR,HP5,G (HX3.out.grown HG5.out (fun e=>by injection e with e;omega)),G (World.ownsRow.kept HO3.out HG5.out (by
       cases ho:Value.ownBlock (.slice C3 (n+1) cap3)with
       |none=>exact .inl rfl
       |some k=>exact .inr fun e=>by have:=(hrow k ho).1;injection e with e;omega)),G (HF3.out.trans (cM HG5.out hb3 (fun k e=>by injection e with e;omega)))⟩
      case measure=>rw[HPr.out.tokN,HP5.out.tokN];omega
end
section
open Go.RowKit
structure FV where
 c:Fc
 p:Value
 b:Value
def Bk (p:FV):List Value:=[.string (ai p.c.nm),p.p,p.b]
def jO (l:List FV):List Value:=l.flatMap Bk
def A8 (v:Vr):List Value:=[.string (ai v.nm), .int .i64 v.sz]
def jJ (l:List Vr):List Value:=l.flatMap A8
theorem vL (a b:List FV):jO (a++b)=jO a++jO b:=by simp[jO]
theorem uz (a b:List Vr):jJ (a++b)=jJ a++jJ b:=by simp[jJ]
theorem kF: ∀(l:List FV) (i:Nat) (h:i<l.length) (k:Nat),k<3->(jO l)[i*3+k]? =(Bk l[i])[k]?
 | [],i,h,k,hk=>by simp at h
 |p::l,0,h,k,hk=>by
  simp only[jO,bO,a8,aD,aE];rw[c_ (by simp[Bk];omega)]
 |p::l,i+1,h,k,hk=>by
  have:=kF l i (by simpa using h) k hk;simp only[jO,bO,aQ]at this⊢;rw[cI (by simp[Bk];omega),<-this]
  congr 1
  simp[Bk];omega
theorem mo: ∀(l:List Vr) (i:Nat) (h:i<l.length) (k:Nat),k<2->(jJ l)[i*2+k]? =(A8 l[i])[k]?
 | [],i,h,k,hk=>by simp at h
 |p::l,0,h,k,hk=>by
  simp only[jJ,bO,a8,aD,aE];rw[c_ (by simp[A8];omega)]
 |p::l,i+1,h,k,hk=>by
  have:=mo l i (by simpa using h) k hk;simp only[jJ,bO,aQ]at this⊢;rw[cI (by simp[A8];omega),<-this]
  congr 1
  simp[A8];omega
def FV.ok (w:World) (P:Nat->Prop) (p:FV):Prop:=lC w P p.p p.c.ps/\cR w P p.b p.c.body
theorem FV.ok.keep {w w':World} {P Q:Nat->Prop} {p:FV} (h:p.ok w P) (hk:cC P w w') (hQ: ∀b,P b->b<w.heap.size->Q b):p.ok w' Q:=⟨h.1.keep hk hQ,h.2.keep hk hQ⟩
def mc (w:World) (P:Nat->Prop) (v:Value) (vs:List Vr):Prop:=
 ∃A c,v= .slice A vs.length c/\(vs=[]\/vs.length<=c/\c<=maxLen/\ ∃b o,A=some ⟨b,o,none⟩/\P b/\b<w.heap.size/\ ∀i,(h:i<vs.length)->w.cell? ⟨b,o+i*2,none⟩=some (.string (ai vs[i].nm))/\w.cell? ⟨b,o+i*2+1,none⟩=some (.int .i64 vs[i].sz))
theorem mc.keep {w w':World} {P Q:Nat->Prop} {v:Value} {vs:List Vr} (h:mc w P v vs) (hk:cC P w w') (hQ: ∀b,P b->b<w.heap.size->Q b):mc w' Q v vs:=by
 obtain⟨A,c,rfl,h⟩:=h;exact⟨A,c,rfl,h.imp id fun⟨h1,h2,b,o,ha,hP,hb,hc⟩=>⟨h1,h2,b,o,ha,hQ b hP hb,aA hb hk.size,fun i hi=>⟨(hk.cell _ hP hb).trans (hc i hi).1,(hk.cell _ hP hb).trans (hc i hi).2⟩⟩⟩
def mm (w:World) (P:Nat->Prop) (v:Value) (fs:List Fc):Prop:=
 ∃A c,v= .slice A fs.length c/\(fs=[]\/fs.length<=c/\c<=maxLen/\ ∃b o,A=some ⟨b,o,none⟩/\P b/\b<w.heap.size/\ ∃pv bv:Nat->Value,∀i,(h:i<fs.length)->w.cell? ⟨b,o+i*3,none⟩=some (.string (ai fs[i].nm))/\w.cell? ⟨b,o+i*3+1,none⟩=some (pv i)/\w.cell? ⟨b,o+i*3+2,none⟩=some (bv i)/\
  lC w P (pv i) fs[i].ps/\cR w P (bv i) fs[i].body)
theorem mm.keep {w w':World} {P Q:Nat->Prop} {v:Value} {fs:List Fc} (h:mm w P v fs) (hk:cC P w w') (hQ: ∀b,P b->b<w.heap.size->Q b):mm w' Q v fs:=by
 obtain⟨A,c,rfl,h⟩:=h
 exact⟨A,c,rfl,h.imp id fun⟨h1,h2,b,o,ha,hP,hb,pv,bv,hc⟩=>⟨h1,h2,b,o,ha,hQ b hP hb,aA hb hk.size,pv,bv,fun i hi=>let⟨q0,q1,q2,q3,q4⟩:=hc i hi
  ⟨(hk.cell _ hP hb).trans q0,(hk.cell _ hP hb).trans q1,(hk.cell _ hP hb).trans q2,q3.keep hk hQ,q4.keep hk hQ⟩⟩⟩
def jY (w:World) (base:Nat) (vv fv:Value) (vs:List Vr) (fs:List FV):Prop:=
 w.ownsRow base 85 2 vv vs.length (jJ vs)/\w.ownsRow base 59 3 fv fs.length (jO fs)/\(∀k,vv.ownBlock=some k->fv.ownBlock≠some k)/\ ∀p,p∈fs->p.ok w (fun b=>base<=b/\some b≠vv.ownBlock/\some b≠fv.ownBlock)
theorem jY.nil_ (w:World) (base:Nat):jY w base (.slice none 0 0) (.slice none 0 0) [] []:=⟨World.ownsRow_nil _ _ _ _,World.ownsRow_nil _ _ _ _,fun k hk=>(by cases hk),fun p hp=>(by cases hp)⟩
theorem i7 {w w':World} {base:Nat} {e:TypeId} {size n:Nat} {v:Value} {xs:List Value} (h:w.ownsRow base e size v n xs) (hk: ∀b,base<=b->b<w.heap.size->v.ownBlock=some b->w'.heap[b]? =w.heap[b]?):w'.ownsRow base e size v n xs:=by
 refine⟨h.1,?_⟩;rcases h.2 with h0|⟨g,cap,cur,hv,hb,hg,hr⟩
 ·exact .inl h0
 ·exact .inr ⟨g,cap,cur,hv,hb,(hk g hb (Array.getElem?_eq_some_iff.1 hg).1 (by rw[hv];rfl)).trans hg,hr⟩
theorem jY.keepW {w w':World} {base:Nat} {vv fv:Value} {vs:List Vr} {fs:List FV} (h:jY w base vv fv vs fs) (hz:w.heap.size<=w'.heap.size) (hk: ∀b,base<=b->b<w.heap.size->w'.heap[b]? =w.heap[b]?):jY w' base vv fv vs fs:=
 ⟨i7 h.1 (fun b h1 h2 _=>hk b h1 h2),i7 h.2.1 (fun b h1 h2 _=>hk b h1 h2),h.2.2.1,fun p hp=>(h.2.2.2 p hp).keep ⟨hz,fun b hb hlt=>hk b hb.1 hlt⟩ (fun b hb _=>hb)⟩
theorem jY.grown {w w':World} {base:Nat} {vv fv:Value} {vs:List Vr} {fs:List FV} {row:Option Nat} (h:jY w base vv fv vs fs) (hg:w.grownBy w' row) (hr: ∀k,row=some k->k<base):jY w' base vv fv vs fs:=
 h.keepW hg.size fun b h1 h2=>hg.block b h2 (fun e=>by have:=hr b e.symm;omega)
theorem jY.snocV {w w':World} {base:Nat} {vv fv:Value} {vs:List Vr} {fs:List FV} {v:Vr} {A n cap:Nat} (h:jY w base vv fv vs fs) (hl:vs.length=n) (hn:w'.ownsRow base 85 2 (.slice (some ⟨A,0,none⟩) (n+1) cap) (n+1) (jJ vs++A8 v))
  (hg:w.grownBy w' vv.ownBlock) (hA:some A=vv.ownBlock\/A=w.heap.size):jY w' base (.slice (some ⟨A,0,none⟩) (n+1) cap) fv (vs++[v]) fs:=by
 subst hl;obtain⟨h1,h2,h3,h4⟩:=h;have hl2:=World.ownsRow.lt h2;refine⟨by rw[aa,uz];simpa[jJ]using hn,i7 h2 (fun b _ hb hv=>hg.block b hb (fun e=>h3 b e.symm hv)),fun k hk e=> ?_,fun p hp=>(h4 p hp).keep (.of_grown hg fun b hb=>hb.2.1) fun b hb hlt=>⟨hb.1,fun e=> ?_,hb.2.2⟩⟩
 ·have hk:A=k:=Z hk;subst hk;rcases hA with hA|hA
  ·exact h3 A hA.symm e
  ·have:=(hl2 A e).2;omega
 ·have e:b=A:=Z e;subst e;rcases hA with hA|hA
  ·exact hb.2.1 hA
  ·omega
theorem jY.snocF {w w':World} {base:Nat} {vv fv:Value} {vs:List Vr} {fs:List FV} {p:FV} {A n cap:Nat} (h:jY w base vv fv vs fs) (hp:p.ok w (fun b=>base<=b/\some b≠vv.ownBlock/\some b≠fv.ownBlock)) (hl:fs.length=n) (hn:w'.ownsRow base 59 3 (.slice (some ⟨A,0,none⟩) (n+1) cap) (n+1) (jO fs++Bk p))
  (hg:w.grownBy w' fv.ownBlock) (hA:some A=fv.ownBlock\/A=w.heap.size):jY w' base vv (.slice (some ⟨A,0,none⟩) (n+1) cap) vs (fs++[p]):=by
 subst hl;obtain⟨h1,h2,h3,h4⟩:=h;have hl1:=World.ownsRow.lt h1
 have hq: ∀b,(base<=b/\some b≠vv.ownBlock/\some b≠fv.ownBlock)->b<w.heap.size->(base<=b/\some b≠vv.ownBlock/\some b≠Value.ownBlock (.slice (some ⟨A,0,none⟩) (fs.length+1) cap)):=fun b hb hlt=>⟨hb.1,hb.2.1,fun e=>by
  have e:b=A:=Z e;subst e;rcases hA with hA|hA
  ·exact hb.2.2 hA
  ·omega⟩
 refine⟨i7 h1 (fun b _ hb hv=>hg.block b hb (fun e=>h3 b hv e.symm)),by rw[aa,vL];simpa[jO]using hn,fun k hk e=> ?_,fun q hq'=> ?_⟩
 ·have e:A=k:=Z e;subst e;rcases hA with hA|hA
  ·exact h3 A hk hA.symm
  ·have:=(hl1 A hk).2;omega
 ·rcases List.mem_append.1 hq' with hq'|hq'
  ·exact(h4 q hq').keep (.of_grown hg fun b hb=>hb.2.2) hq
  ·rw[cG]at hq';subst hq';exact hp.keep (.of_grown hg fun b hb=>hb.2.2) hq
theorem jY.rd {w:World} {base:Nat} {vv fv:Value} {vs:List Vr} {fs:List FV} (h:jY w base vv fv vs fs):mc w (fun b=>base<=b) vv vs/\mm w (fun b=>base<=b) fv (fs.map (·.c)):=by
 obtain⟨h1,h2,_,h4⟩:=h;constructor
 ·rcases h1.2 with⟨rfl,h0⟩|⟨g,cap,cur,rfl,hb,hg,hnc,hcm,hcs,ht⟩
  ·have:vs=[]:=aJ h0;subst this;exact⟨none,0,rfl, .inl rfl⟩
  ·have cell: ∀j y,(jJ vs)[j]? =some y->w.cell? ⟨g,j,none⟩=some y:=fun j y hy=>by
    rw[cell_of_row w g j cur 85 (0,0) hg];rw[<-ht,cH]at hy;split at hy
    ·simpa using hy
    ·cases hy
   exact⟨_,cap,rfl, .inr ⟨hnc,hcm,g,0,rfl,hb,(Array.getElem?_eq_some_iff.1 hg).1,fun i hi=>by
    rw[aD]
    exact⟨cell _ _ (mo vs i hi 0 (by omega)),cell _ _ (mo vs i hi 1 (by omega))⟩⟩⟩
 ·rcases h2.2 with⟨rfl,h0⟩|⟨g,cap,cur,rfl,hb,hg,hnc,hcm,hcs,ht⟩
  ·have:fs=[]:=aJ h0;subst this;exact⟨none,0,rfl, .inl rfl⟩
  ·have cell: ∀j y,(jO fs)[j]? =some y->w.cell? ⟨g,j,none⟩=some y:=fun j y hy=>by
    rw[cell_of_row w g j cur 59 (0,0) hg];rw[<-ht,cH]at hy;split at hy
    ·simpa using hy
    ·cases hy
   refine⟨some ⟨g,0,none⟩,cap,by simp, .inr ⟨by simpa using hnc,hcm,g,0,rfl,hb,(Array.getElem?_eq_some_iff.1 hg).1,fun i=>if h:i<fs.length then fs[i].p else .slice none 0 0,fun i=>if h:i<fs.length then fs[i].b else .slice none 0 0,fun i hi=> ?_⟩⟩;have hi':i<fs.length:=by simpa using hi
   have e0:(fs.map (·.c))[i]=fs[i].c:=by simp
   have hm:=(h4 fs[i] (au hi')).keep (P:=fun b=>base<=b/\some b≠vv.ownBlock/\some b≠Value.ownBlock (.slice (some ⟨g,0,none⟩) fs.length cap)) (w':=w) ⟨ah _,fun _ _ _=>rfl⟩ (Q:=fun b=>base<=b) (fun b hb _=>hb.1);rw[e0];simp only[aD,dif_pos hi'];exact⟨cell _ _ (kF fs i hi' 0 (by omega)),cell _ _ (kF fs i hi' 1 (by omega)),cell _ _ (kF fs i hi' 2 (by omega)),hm.1,hm.2⟩
theorem EM:nf prog 31 85 2 24 (.agg #[.string ⟨#[]⟩, .int .i64 0]):=⟨underlying31,by kernel_rfl,by rfl,by decide⟩
theorem EV:nf prog 32 59 3 64 (.agg #[.string ⟨#[]⟩, .slice none 0 0, .slice none 0 0]):=⟨underlying32,by kernel_rfl,by rfl,by decide⟩
def Cu (g:Nat) (en:Int) (w:World) (r:PR Pg) (e:Ending) (w':World):Prop:=
 w.grownBy w' (some g)/\match r with
 | .ok (p,q)=> ∃A n c B m d,e= .returned (.agg #[.slice A n c, .slice B m d])/\mc w' (fun b=>w.heap.size<=b) (.slice A n c) p.vs/\mm w' (fun b=>w.heap.size<=b) (.slice B m d) p.fs
 | .error (q,n)=>e=a6 en q n
theorem kB {g:Nat} {en:Int} {w w':World} {r:PR Pg} {q:List bN} {n:Int} (hr:r= .error (q,n)) (hG:w.grownBy w' (some g)):Cu g en w r (a6 en q n) w':=by
 subst hr;exact⟨hG,rfl⟩
end
end Go.Proofs.YtddomeddabfinaaGreatDoor
