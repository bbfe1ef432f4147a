/-
  Parts of the proof: RafL.
-/
import Derived.Test.YtelplgkppalmfaaGreatDoorPs00
import Derived.Test.YtelplgkppalmfaaGreatDoorPs35
set_option maxRecDepth 100000
set_option maxHeartbeats 8000000
set_option linter.unusedVariables false
set_option linter.unusedSimpArgs false
namespace Go.Proofs.YtelplgkppalmfaaGreatDoor
open Go.Proofs.Tryz
open Go.RowKit
structure yN (w0:World) (g pr:Nat) (t1:TypeId) (c1:Array Value) (w:World):Prop where
 gr:w0.grownBy w (some g)
 b1:aT w pr t1 c1
 n1:pr≠g
theorem yN.st {w0 w w':World} {g pr:Nat} {t1:TypeId} {c1:Array Value} (h:yN w0 g pr t1 c1 w) (hg:w.grownBy w' (some g)):yN w0 g pr t1 c1 w':=⟨ah h.gr hg,h.b1.grown hg (fun e=>h.n1 (M e)),h.n1⟩
def z8 (g:Nat) (s:List UInt8) (ts:List bB) (w:World) (y:Vr×RS) (e:Ending) (w':World):Prop:=
 w.grownBy w' (some g)/\QA w' g s ts y.2/\e= .returned (.agg #[.string (ae y.1.nm), .int .i64 y.1.sz])
section
variable {w W W':World} {g pb sb:Nat} {s:List UInt8} {ts:List bB} {pc sc:Array Value} {ty:TypeId} {X:World->Prop} {σ σ':RS}
theorem QK.tok (K:QK w g s ts pb pc sb sc ty X σ W) {k2 v2 f2:Int} {x2:List UInt8} (h:σ.hd=⟨k2,x2,v2,f2⟩):Calls prog 70 #[.pointer (some ⟨g,0,none⟩)] W fun e W'=>e= .returned (.agg #[.int .i64 k2, .string (ae x2), .int .i64 v2, .int .i64 f2])/\Hid (aT (W'.alloc (.cells #[.int .i64 k2, .string (ae x2), .int .i64 v2, .int .i64 f2] 62)) W'.heap.size 62 #[.int .i64 k2, .string (ae x2), .int .i64 v2, .int .i64 f2])/\Hid (QK w g s ts pb pc sb sc ty X σ (W'.alloc (.cells #[.int .i64 k2, .string (ae x2), .int .i64 v2, .int .i64 f2] 62))):=by
 have:=eZ g s ts σ W K.pa;rw[h]at this;exact this.mono fun e W' hh=>⟨hh.1,G (ai _ _ _),G (K.ext (hh.2.alloc' _))⟩
theorem QK.fail (K:QK w g s ts pb pc sb sc ty X σ W) (n:Int) (hn:n≠0):Calls prog 34 #[.pointer (some ⟨g,0,none⟩), .int .i64 n] W fun e W'=>e= .returned (.tuple #[])/\Hid (QK w g s ts pb pc sb sc ty X (σ.fail s.length n) W'):=
 (i_ g s ts σ n hn W K.pa).mono fun e W' hh=>⟨hh.1,G (K.step hh.2.1 hh.2.2)⟩
theorem QK.finV {z0 z1:Value} (K:QK w g s ts w.heap.size #[z0,z1] sb sc 91 X σ W) {y:Vr×RS} (nm:List UInt8) (n:Int) (hy:y=(⟨nm,n⟩,σ)):
  (∀o,(W.setCells w.heap.size 0 [.string (ae nm), .int .i64 n]).cell? ⟨w.heap.size,o,none⟩=(#[.string (ae nm), .int .i64 n]:Array Value)[o]?)/\z8 g s ts w y (.returned (.agg #[.string (ae nm), .int .i64 n])) (W.setCells w.heap.size 0 [.string (ae nm), .int .i64 n]):=by
 subst hy;have hg:=K.nn.1;have hc:=bG w.heap.size [.string (ae nm), .int .i64 n] 0 W;have hb:=(K.rb.set 0 (.string (ae nm))).set 1 (.int .i64 n);exact⟨fun o=>by have:=hb.cell o;simpa[World.setCells]using this,bX K.gr hc (ag _),K.pa.grown hc (fun k e=>by injection e with e;omega),rfl⟩
end
theorem qd (σ:RS) (s:List UInt8) (ts:List bB) (w:World) (g:Nat) (h:QA w g s ts σ):Calls prog 32 #[.pointer (some ⟨g,0,none⟩)] w (z8 g s ts w (ja s.length σ)):=by
 obtain⟨⟨⟨tk,tx,tv,tf⟩,σ1⟩,hy⟩: ∃y,σ.take s.length 1=y:=⟨_,rfl⟩
 have hfd:=ly tk tv tf tx;have hgl:=h.lt;have K:=G (QK.one h #[.string ⟨#[]⟩, .int .i64 0] 91);obtain⟨hrc,hrf,hsc,hsf⟩:=K.out.cells;clear h;go_enter func32,ntmps32;go_wp2_with (go_at_call 69;refine(K.out.take (by decide) hy).mono ?_;rintro e u1 ⟨rfl,K⟩;have hz1:=K.out.rb.lt;have K:=G (K.out.open0 #[.string (ae tx), .int .i64 0]);have hpn:w.heap.size≠u1.heap.size:=(by omega);have hpm:u1.heap.size≠w.heap.size:=(by omega);clear hrc hrf hsc hsf;obtain⟨hrc,hrf,hsc,hsf⟩:=K.out.cells)
 cases hls:σ1.is jD with
 |true=>
  go_wp2_with (go_at_call 31;refine(K.out.yes hls).mono ?_;rintro e wx ⟨rfl,K⟩;clear hrc hrf hsc hsf;obtain⟨hrc,hrf,hsc,hsf⟩:=K.out.cells);obtain⟨⟨k2,x2,v2,f2⟩,hh⟩: ∃t,σ1.tail.hd=t:=⟨_,rfl⟩
  obtain⟨σ3,hσ3⟩: ∃τ,(if k2=3/\(v2<1\/2000<v2)then σ1.tail.fail s.length 2 else σ1.tail)=τ:=⟨_,rfl⟩
  obtain⟨⟨⟨tk3,tx3,tv3,tf3⟩,σ4⟩,hy3⟩: ∃y,σ3.take s.length 3=y:=⟨_,rfl⟩
  have hfd3:=wX tk3 tv3 tf3 tx3;have HR:=G (show ja s.length σ=(⟨tx,tv3⟩,(σ4.want s.length jq).want s.length iu)from by unfold ja;rw[hy,if_pos hls];simp only[hh,hσ3,hy3]);have h4:(k2=3/\v2<1/\σ1.tail.fail s.length 2=σ3)\/(k2=3/\ ¬v2<1/\2000<v2/\σ1.tail.fail s.length 2=σ3)\/(k2=3/\ ¬v2<1/\ ¬2000<v2/\σ1.tail=σ3)\/((k2==3)=false/\k2≠3/\σ1.tail=σ3):=by
   rw[<-hσ3];by_cases h:k2=3
   ·by_cases a:v2<1
    ·exact .inl ⟨h,a,(if_pos ⟨h, .inl a⟩).symm⟩
    ·by_cases b:2000<v2
     ·exact .inr (.inl ⟨h,a,b,(if_pos ⟨h, .inr b⟩).symm⟩)
     ·exact .inr (.inr (.inl ⟨h,a,b,(if_neg (fun h=>h.2.elim a b)).symm⟩))
   ·exact .inr (.inr (.inr ⟨beq_eq_false_iff_ne.2 h,h,(if_neg (fun e=>h e.1)).symm⟩))
  rcases h4 with⟨rfl,h1,hs⟩|⟨rfl,h1,h2,hs⟩|⟨rfl,h1,h2,hs⟩|⟨h0,h1,hs⟩
  all_goals go_wp2_with (first|(go_at_call 70;refine(K.out.tok hh).mono ?_;rintro e u3 ⟨rfl,hTC,K⟩;have htc:=hTC.out.cell;clear hrc hrf hsc hsf;obtain⟨hrc,hrf,hsc,hsf⟩:=K.out.cells)|(go_at_call 34;refine(K.out.fail 2 (by decide)).mono ?_;rintro e wx ⟨rfl,K⟩;clear htc;clear hrc hrf hsc hsf;obtain⟨hrc,hrf,hsc,hsf⟩:=K.out.cells))
  all_goals rw[hs]at K
  all_goals
   go_wp2_with (go_at_call 69;refine(K.out.take (by decide) hy3).mono ?_;rintro e wx ⟨rfl,K⟩;clear hrc hrf hsc hsf;obtain⟨hrc,hrf,hsc,hsf⟩:=K.out.cells;have k:=K.out.set (by omega) 1 (.int .i64 tv3);simp only[World.setCells,ak,Nat.reduceAdd,aw,aN,aO]at k;have K:=G k;clear k);have hN:=G (K.out.want jq);go_wp2_with (go_at_call 71;refine hN.out.mono ?_;clear hN;rintro e wx ⟨rfl,K⟩;clear hrc hrf hsc hsf;obtain⟨hrc,hrf,hsc,hsf⟩:=K.out.cells);have hN:=G (K.out.want iu);go_wp2_with (go_at_call 71;refine hN.out.mono ?_;clear hN;rintro e wx ⟨rfl,K⟩;clear hrc hrf hsc hsf;obtain⟨hrc,hrf,hsc,hsf⟩:=K.out.cells);obtain⟨hset,hfin⟩:=K.out.finV (y:=ja s.length σ) tx (tv3) (by rw[HR.out]);simp only[World.setCells,ak,Nat.reduceAdd]at hset hfin;exact bodyPost_ret (v:= .agg #[.string (ae tx), .int .i64 tv3]) (by simp[results,results32,go_sem,hset]) rfl hfin
 |false=>
  have hN:=hls;go_wp2_with (go_at_call 31;refine(K.out.no hN).mono ?_;rintro e wx ⟨rfl,K⟩;clear hN;clear hrc hrf hsc hsf;obtain⟨hrc,hrf,hsc,hsf⟩:=K.out.cells);have hN:=G (K.out.want iu);go_wp2_with (go_at_call 71;refine hN.out.mono ?_;clear hN;rintro e wx ⟨rfl,K⟩;clear hrc hrf hsc hsf;obtain⟨hrc,hrf,hsc,hsf⟩:=K.out.cells);obtain⟨hset,hfin⟩:=K.out.finV (y:=ja s.length σ) tx (0) (by unfold ja;rw[hy,if_neg (by simp[hls])]);simp only[World.setCells,ak,Nat.reduceAdd]at hset hfin;exact bodyPost_ret (v:= .agg #[.string (ae tx), .int .i64 0]) (by simp[results,results32,go_sem,hset]) rfl hfin
def yS (g:Nat) (s:List UInt8) (ts:List bB) (w:World) (y:Fc×RS) (e:Ending) (w':World):Prop:=
 w.grownBy w' (some g)/\QA w' g s ts y.2/\ ∃A n c B m d,e= .returned (.agg #[.string (ae y.1.nm), .slice A n c, .slice B m d])/\jK w' (fun b=>w.heap.size<=b) (.slice A n c) y.1.ps/\cP w' (fun b=>w.heap.size<=b) (.slice B m d) y.1.body
theorem pd {w W:World} {g pv:Nat} {s:List UInt8} {ts:List bB} {y:Fc×RS} {z0 z1 z2:Value} {X:Array Value} {nm:List UInt8} {A B:Option Addr} {n c m d:Nat} {ps:List (List UInt8)} {bd:List St} {τ:RS} (hC:lu w g w.heap.size pv 68 68 #[z0,z1,z2] X W) (hQ:QA W g s ts τ) (hg:g<w.heap.size) (hy:y=(⟨nm,ps,bd⟩,τ))
  (hN:jK W (fun b=>w.heap.size<b) (.slice A n c) ps) (hS:cP W (fun b=>w.heap.size<b) (.slice B m d) bd):
  (∀o,(W.setCells w.heap.size 0 [.string (ae nm), .slice A n c, .slice B m d]).cell? ⟨w.heap.size,o,none⟩=(#[.string (ae nm), .slice A n c, .slice B m d]:Array Value)[o]?)/\yS g s ts w y (.returned (.agg #[.string (ae nm), .slice A n c, .slice B m d])) (W.setCells w.heap.size 0 [.string (ae nm), .slice A n c, .slice B m d]):=by
 subst hy;have hc:=bG w.heap.size [.string (ae nm), .slice A n c, .slice B m d] 0 W;have hb:=((hC.b1.set 0 (.string (ae nm))).set 1 (.slice A n c)).set 2 (.slice B m d);have hk:cV (fun b=>w.heap.size<b) W _:= .of_grown hc fun b hb e=>by injection e with e;omega
 exact⟨fun o=>by have:=hb.cell o;simpa[World.setCells]using this,bX hC.gr hc (ag _),hQ.grown hc (fun k e=>by injection e with e;omega),A,n,c,B,m,d,rfl,hN.keep hk (fun b hb _=>aH hb),hS.keep hk (fun b hb _=>aH hb)⟩
theorem oE {en:Int} {x:List UInt8} {σ:RS}:(σ.want en x).isD=true\/(σ.want en x).size+1=σ.size:=by
 cases σ with
 |dead a b=>rw[bF];exact .inl rfl
 |live r=>
  rcases fL en x r with⟨_,h2,h3⟩|⟨_,h2⟩
  ·rw[h2];exact .inr h3.symm
  ·rw[h2];exact .inl rfl
theorem wT {en:Int} {x:List UInt8} {σ:RS} {f n:Nat} (h:σ.size<=n) (hf:4*n+4<=f):(σ.want en x).isD=true\/4*(σ.want en x).size+8<=f:=by
 rcases oE (en:=en) (x:=x) (σ:=σ)with h1|h1
 ·exact .inl h1
 ·exact .inr (by omega)
theorem ug (f:Nat) (hff:f<=400000) (σ:RS) (s:List UInt8) (ts:List bB) (w:World) (g:Nat) (h:QA w g s ts σ) (hf:4*σ.size+7<=f) (hrp:((σ.take s.length 1).2.want s.length fi).is eg=true):Calls prog 33 #[.pointer (some ⟨g,0,none⟩)] w (yS g s ts w (eK s.length f σ)):=by
 obtain⟨⟨⟨tk,tx,tv,tf⟩,σ1⟩,hy⟩: ∃y,σ.take s.length 1=y:=⟨_,rfl⟩
 have hfd:=ly tk tv tf tx;have hs1:=i1 hy;have hw1:=gZ s.length fi σ1;obtain⟨σ2,hσ2⟩: ∃τ,σ1.want s.length fi=τ:=⟨_,rfl⟩
 rw[hσ2]at hw1;rw[hy]at hrp;simp only at hrp;rw[hσ2]at hrp;have hz:=dm hrp;obtain⟨⟨bd,τ⟩,hb⟩: ∃y,cm s.length f σ2.tail=y:=⟨_,rfl⟩
 have hbk:σ2.tail.isD=true\/4*σ2.tail.size+8<=f:= .inr (by omega);have HR:=G (show eK s.length f σ=(⟨tx,[],bd⟩,τ)from by unfold eK jt;rw[hy];simp only[hσ2,if_pos hrp,hb]);have HX0:=G (O w (.cells #[.string ⟨#[]⟩, .slice none 0 0, .slice none 0 0] 68));have HP0:=G (h.ext HX0.out);have hgl:=h.lt;have HO0:=G (show yN w g w.heap.size 68 #[.string ⟨#[]⟩, .slice none 0 0, .slice none 0 0] _ from⟨HX0.out.grownBy _,ai w 68 #[.string ⟨#[]⟩, .slice none 0 0, .slice none 0 0],by omega⟩);have hrc:=HO0.out.b1.cell;have hrf:=HO0.out.b1.frozen;clear h HX0;go_enter func33,ntmps33;go_wp2_with (first|(go_at_call 69;refine(j7 g s ts σ 1 (by decide) _ HP0.out).mono ?_;rw[hy];simp only[vM];rintro e u1 ⟨rfl,h1,h2⟩;have hE1:=O u1 (.cells #[.string (ae tx), .slice none 0 0, .slice none 0 0] 68);have hO1:=(HO0.out.st h2);have hzo:=hO1.b1.lt;have HP1:=G (h1.ext hE1);have HC1:=G (show lu w g w.heap.size u1.heap.size 68 68 #[.string ⟨#[]⟩, .slice none 0 0, .slice none 0 0] #[.string (ae tx), .slice none 0 0, .slice none 0 0] _ from⟨ah hO1.gr (hE1.grownBy _),hO1.b1.ext hE1,ai u1 68 #[.string (ae tx), .slice none 0 0, .slice none 0 0],hO1.n1,by omega⟩);have hpv:w.heap.size<=u1.heap.size:=(aH hzo);have hpn:w.heap.size≠u1.heap.size:=(by omega);have hpm:u1.heap.size≠w.heap.size:=(by omega);have hgv:g<u1.heap.size:=(by omega);have hrc:=HC1.out.b1.cell;have hrf:=HC1.out.b1.frozen;have hvc:=HC1.out.b2.cell;have hvf:=HC1.out.b2.frozen;clear h1 h2 hE1 hO1 HP0 HO0)|(go_at_call 71;refine(eA g s ts σ1 fi _ HP1.out).mono ?_;rintro e u2 ⟨rfl,h1,h2⟩;rw[hσ2]at h1;have HP2:=G h1;have HC2:=G (HC1.out.st h2);clear hrc hrf hvc hvf;have hrc:=HC2.out.b1.cell;have hrf:=HC2.out.b1.frozen;have hvc:=HC2.out.b2.cell;have hvf:=HC2.out.b2.frozen;clear h1 h2 HP1)|(go_at_call 31;refine(cD g s ts σ2 eg _ HP2.out).mono ?_;rw[hrp];simp only[if_true];rintro e u3 ⟨rfl,h1,h2⟩;have HP3:=G h1;have HC3:=G (HC2.out.st h2);clear hrc hrf hvc hvf;have hrc:=HC3.out.b1.cell;have hrf:=HC3.out.b1.frozen;have hvc:=HC3.out.b2.cell;have hvf:=HC3.out.b2.frozen;clear h1 h2 HP2)|(go_at_call 72;refine(ky (f:=f) (by omega) (by omega) σ2.tail s ts _ g HP3.out hbk (by omega)).mono ?_;rw[hb];rintro e u9 ⟨hG,hQ,B,m,d,rfl,hR⟩;have hzb:=HC3.out.b2.lt;have hzn:=hG.size;have hC9:=HC3.out.st hG;have hgs:=cg u9 u1.heap.size 2 (.slice B m d);have hb9:=hC9.b2.set 2 (.slice B m d);simp only[aw,aN,aO]at hb9;have HC9:=G (show lu w g w.heap.size u1.heap.size 68 68 #[.string ⟨#[]⟩, .slice none 0 0, .slice none 0 0] #[.string (ae tx), .slice none 0 0, .slice B m d] _ from⟨bX hC9.gr hgs hpv,hC9.b1.grown hgs (fun e=>hpn (M e)),hb9,hC9.n1,hC9.n2⟩);have HP9:=G (hQ.grown hgs (fun k e=>by injection e with e;omega));have HN9:=G (((jK.nil_ _ (fun b=>u1.heap.size<b)).keep (.of_grown hG fun b hb e=>by injection e with e;omega) (Q:=fun b=>u1.heap.size<b) (fun b hb _=>by omega)).keep (.of_grown hgs fun b hb e=>by injection e with e;omega) (Q:=fun b=>w.heap.size<b) (fun b hb _=>by omega));have HS9:=G ((hR.mono (Q:=fun b=>u1.heap.size<b) (fun b hb _=>by omega)).keep (.of_grown hgs fun b hb e=>by injection e with e;omega) (Q:=fun b=>w.heap.size<b) (fun b hb _=>by omega));clear hrc hrf hvc hvf;have hvo:=hC9.b2.cell;have hvg:=hC9.b2.frozen;have hrc:=HC9.out.b1.cell;have hrf:=HC9.out.b1.frozen;have hvc:=HC9.out.b2.cell;have hvf:=HC9.out.b2.frozen;clear hG hQ hR hC9 hgs hb9 HP3));obtain⟨hset,hfin⟩:=pd HC9.out HP9.out hgl HR.out HN9.out HS9.out;simp only[World.setCells,ak,Nat.reduceAdd]at hset hfin;exact bodyPost_ret (v:= .agg #[.string (ae tx), .slice none 0 0, .slice B m d]) (by simp[results,results33,go_sem,hset]) rfl hfin
theorem kH.grownN {w w':World} {base:Nat} {v:Value} {ls:List (List UInt8)} {row:Option Nat} (h:kH w base v ls) (hg:w.grownBy w' row) (hr: ∀k,row=some k->k<base):kH w' base v ls:=by
 refine bH h hg ?_
 cases hv:v.ownBlock with
 |none=>exact .inl rfl
 |some k=>
  refine .inr fun e=> ?_;have:=(aJ h k hv).1;have:=hr k e.symm;omega
def uG (g:Nat) (v:Value) (w:World):Nat:=match v with
 | .bool true=>qN g w+1
 | _=>0
theorem uh (f:Nat) (hff:f<=400000) (σ:RS) (s:List UInt8) (ts:List bB) (w:World) (g:Nat) (h:QA w g s ts σ) (hf:4*σ.size+7<=f) (hrp:((σ.take s.length 1).2.want s.length fi).is eg=false):Calls prog 33 #[.pointer (some ⟨g,0,none⟩)] w (yS g s ts w (eK s.length f σ)):=by
 obtain⟨⟨⟨tk,tx,tv,tf⟩,σ1⟩,hy⟩: ∃y,σ.take s.length 1=y:=⟨_,rfl⟩
 have hfd:=ly tk tv tf tx;have hs1:=i1 hy;have hw1:=gZ s.length fi σ1;obtain⟨σ2,hσ2⟩: ∃τ,σ1.want s.length fi=τ:=⟨_,rfl⟩
 rw[hσ2]at hw1;rw[hy]at hrp;simp only at hrp;rw[hσ2]at hrp;obtain⟨y0,hy0⟩: ∃y,d_ s.length f [] σ2=y:=⟨_,rfl⟩
 have HR0:=G (show eK s.length f σ=(⟨tx,y0.1,(cm s.length f (y0.2.want s.length eg)).1⟩,(cm s.length f (y0.2.want s.length eg)).2)from by unfold eK jt;rw[hy];simp only[hσ2,hrp,aI,if_false,hy0]);have HX0:=G (O w (.cells #[.string ⟨#[]⟩, .slice none 0 0, .slice none 0 0] 68));have HP0:=G (h.ext HX0.out);have hgl:=h.lt;have HO0:=G (show yN w g w.heap.size 68 #[.string ⟨#[]⟩, .slice none 0 0, .slice none 0 0] _ from⟨HX0.out.grownBy _,ai w 68 #[.string ⟨#[]⟩, .slice none 0 0, .slice none 0 0],by omega⟩);have hrc:=HO0.out.b1.cell;have hrf:=HO0.out.b1.frozen;clear h HX0;go_enter func33,ntmps33;go_wp2_with (first|(go_at_call 69;refine(j7 g s ts σ 1 (by decide) _ HP0.out).mono ?_;rw[hy];simp only[vM];rintro e u1 ⟨rfl,h1,h2⟩;have hE1:=O u1 (.cells #[.string (ae tx), .slice none 0 0, .slice none 0 0] 68);have hO1:=(HO0.out.st h2);have hzo:=hO1.b1.lt;have HP1:=G (h1.ext hE1);have HC1:=G (show lu w g w.heap.size u1.heap.size 68 68 #[.string ⟨#[]⟩, .slice none 0 0, .slice none 0 0] #[.string (ae tx), .slice none 0 0, .slice none 0 0] _ from⟨ah hO1.gr (hE1.grownBy _),hO1.b1.ext hE1,ai u1 68 #[.string (ae tx), .slice none 0 0, .slice none 0 0],hO1.n1,by omega⟩);have hpv:w.heap.size<=u1.heap.size:=(aH hzo);have hpn:w.heap.size≠u1.heap.size:=(by omega);have hpm:u1.heap.size≠w.heap.size:=(by omega);have hgv:g<u1.heap.size:=(by omega);have hrc:=HC1.out.b1.cell;have hrf:=HC1.out.b1.frozen;have hvc:=HC1.out.b2.cell;have hvf:=HC1.out.b2.frozen;clear h1 h2 hE1 hO1 HP0 HO0)|(go_at_call 71;refine(eA g s ts σ1 fi _ HP1.out).mono ?_;rintro e u2 ⟨rfl,h1,h2⟩;rw[hσ2]at h1;have HP2:=G h1;have HC2:=G (HC1.out.st h2);clear hrc hrf hvc hvf;have hrc:=HC2.out.b1.cell;have hrf:=HC2.out.b1.frozen;have hvc:=HC2.out.b2.cell;have hvf:=HC2.out.b2.frozen;clear h1 h2 HP1)|(go_at_call 31;refine(cD g s ts σ2 eg _ HP2.out).mono ?_;rw[hrp];simp only[aI,if_false];rintro e u3 ⟨rfl,h1,h2⟩;have HP3:=G h1;have HC3:=G (HC2.out.st h2);clear hrc hrf hvc hvf;have hrc:=HC3.out.b1.cell;have hrf:=HC3.out.b1.frozen;have hvc:=HC3.out.b2.cell;have hvf:=HC3.out.b2.frozen;clear h1 h2 HP2));clear hrc hrf hvc hvf
 go_loopw [4] (fun vm wr=> ∃(more:Bool) (k:Nat) (acc:List (List UInt8)) (τ:RS) (C:Option Addr) (n cap:Nat),vm= .bool more/\acc.length=n/\τ.size<=σ.size/\(more=true->n+τ.size<=σ.size/\τ.size+1<=k)/\n<=σ.size+1/\Hid (if more then d_ s.length k acc τ=y0 else y0=(acc,τ))/\Hid (QA wr g s ts τ)/\
  Hid (kH wr (u1.heap.size+1) (.slice C n cap) acc)/\Hid (lu w g w.heap.size u1.heap.size 68 68 #[.string ⟨#[]⟩, .slice none 0 0, .slice none 0 0] #[.string (ae tx), .slice C n cap, .slice none 0 0] wr)) (fun vm wr=>uG g vm wr)
 case atStart=>exact⟨true,f,[],σ2,none,0,0,rfl,rfl,by omega,fun _=>⟨by omega,by omega⟩,by omega,G hy0,HP3,G (b7 _ _ _ 1),HC3⟩
 case round=>
  clear HP3 HC3;obtain⟨more,k,acc,τ,C,n,cap,rfl,hn,hτs,hmore,hnb,HYe,HPr,HOr,HCr⟩:=hrel;have hrc:=HCr.out.b1.cell;have hrf:=HCr.out.b1.frozen;have hvc:=HCr.out.b2.cell;have hvf:=HCr.out.b2.frozen
  cases more with
  |false=>
   have HYe:=G (show y0=(acc,τ)from HYe.out);have hq:y0=(acc,τ):=HYe.out;have hbk:=wT (en:=s.length) (x:=eg) (f:=f) hτs (by omega);obtain⟨⟨bd,τ9⟩,hb⟩: ∃y,cm s.length f (τ.want s.length eg)=y:=⟨_,rfl⟩
   have HR:=G (show eK s.length f σ=(⟨tx,acc,bd⟩,τ9)from by rw[HR0.out,hq];simp only[hb]);clear hq;go_wp2_with (first|(go_at_call 71;refine(eA g s ts τ eg _ HPr.out).mono ?_;rintro e u8 ⟨rfl,h1,h2⟩;have HP8:=G h1;have HC8:=G (HCr.out.st h2);clear hrc hrf hvc hvf;have hrc:=HC8.out.b1.cell;have hrf:=HC8.out.b1.frozen;have hvc:=HC8.out.b2.cell;have hvf:=HC8.out.b2.frozen;have HN8:=G (HOr.out.grownN h2 (fun k e=>by injection e with e;omega));clear h1 h2 HPr)|(go_at_call 72;refine(ky (f:=f) (by omega) (by omega) (τ.want s.length eg) s ts _ g HP8.out hbk (by omega)).mono ?_;rw[hb];rintro e u9 ⟨hG,hQ,B,m,d,rfl,hR⟩;have hzb:=HC8.out.b2.lt;have hzn:=hG.size;have hC9:=HC8.out.st hG;have hgs:=cg u9 u1.heap.size 2 (.slice B m d);have hb9:=hC9.b2.set 2 (.slice B m d);simp only[aw,aN,aO]at hb9;have HC9:=G (show lu w g w.heap.size u1.heap.size 68 68 #[.string ⟨#[]⟩, .slice none 0 0, .slice none 0 0] #[.string (ae tx), .slice C n cap, .slice B m d] _ from⟨bX hC9.gr hgs hpv,hC9.b1.grown hgs (fun e=>hpn (M e)),hb9,hC9.n1,hC9.n2⟩);have HP9:=G (hQ.grown hgs (fun k e=>by injection e with e;omega));have HN9:=G ((((HN8.out.rd).mono (fun b hb _=>show u1.heap.size<b from hb)).keep (.of_grown hG fun b hb e=>by injection e with e;omega) (Q:=fun b=>u1.heap.size<b) (fun b hb _=>by omega)).keep (.of_grown hgs fun b hb e=>by injection e with e;omega) (Q:=fun b=>w.heap.size<b) (fun b hb _=>by omega));have HS9:=G ((hR.mono (Q:=fun b=>u1.heap.size<b) (fun b hb _=>by omega)).keep (.of_grown hgs fun b hb e=>by injection e with e;omega) (Q:=fun b=>w.heap.size<b) (fun b hb _=>by omega));clear hrc hrf hvc hvf;have hvo:=hC9.b2.cell;have hvg:=hC9.b2.frozen;have hrc:=HC9.out.b1.cell;have hrf:=HC9.out.b1.frozen;have hvc:=HC9.out.b2.cell;have hvf:=HC9.out.b2.frozen;clear hG hQ hR hC9 hgs hb9 HP8));obtain⟨hset,hfin⟩:=pd HC9.out HP9.out hgl HR.out HN9.out HS9.out;simp only[World.setCells,ak,Nat.reduceAdd]at hset hfin;exact bodyPost_ret (v:= .agg #[.string (ae tx), .slice C n cap, .slice B m d]) (by simp[results,results33,go_sem,hset]) rfl hfin
  |true=>
   obtain⟨hm1,hm2⟩:=hmore rfl;have HYe:=G (show d_ s.length k acc τ=y0 from HYe.out);obtain⟨er,hec,hed⟩:=HPr.out.cells
   cases hd:τ.isD with
   |true=>
    rw[hd]at hed
    have HYe:=G (show y0=(acc,τ)from by
     rw[<-HYe.out]
     cases τ with
     |dead a b=>exact qi _ _ _ _ _
     |live l=>cases hd)
    have hq:y0=(acc,τ):=HYe.out;have hbk:=wT (en:=s.length) (x:=eg) (f:=f) hτs (by omega);obtain⟨⟨bd,τ9⟩,hb⟩: ∃y,cm s.length f (τ.want s.length eg)=y:=⟨_,rfl⟩
    have HR:=G (show eK s.length f σ=(⟨tx,acc,bd⟩,τ9)from by rw[HR0.out,hq];simp only[hb]);clear hq;go_wp2_with (first|(go_at_call 71;refine(eA g s ts τ eg _ HPr.out).mono ?_;rintro e u8 ⟨rfl,h1,h2⟩;have HP8:=G h1;have HC8:=G (HCr.out.st h2);clear hrc hrf hvc hvf;have hrc:=HC8.out.b1.cell;have hrf:=HC8.out.b1.frozen;have hvc:=HC8.out.b2.cell;have hvf:=HC8.out.b2.frozen;have HN8:=G (HOr.out.grownN h2 (fun k e=>by injection e with e;omega));clear h1 h2 HPr)|(go_at_call 72;refine(ky (f:=f) (by omega) (by omega) (τ.want s.length eg) s ts _ g HP8.out hbk (by omega)).mono ?_;rw[hb];rintro e u9 ⟨hG,hQ,B,m,d,rfl,hR⟩;have hzb:=HC8.out.b2.lt;have hzn:=hG.size;have hC9:=HC8.out.st hG;have hgs:=cg u9 u1.heap.size 2 (.slice B m d);have hb9:=hC9.b2.set 2 (.slice B m d);simp only[aw,aN,aO]at hb9;have HC9:=G (show lu w g w.heap.size u1.heap.size 68 68 #[.string ⟨#[]⟩, .slice none 0 0, .slice none 0 0] #[.string (ae tx), .slice C n cap, .slice B m d] _ from⟨bX hC9.gr hgs hpv,hC9.b1.grown hgs (fun e=>hpn (M e)),hb9,hC9.n1,hC9.n2⟩);have HP9:=G (hQ.grown hgs (fun k e=>by injection e with e;omega));have HN9:=G ((((HN8.out.rd).mono (fun b hb _=>show u1.heap.size<b from hb)).keep (.of_grown hG fun b hb e=>by injection e with e;omega) (Q:=fun b=>u1.heap.size<b) (fun b hb _=>by omega)).keep (.of_grown hgs fun b hb e=>by injection e with e;omega) (Q:=fun b=>w.heap.size<b) (fun b hb _=>by omega));have HS9:=G ((hR.mono (Q:=fun b=>u1.heap.size<b) (fun b hb _=>by omega)).keep (.of_grown hgs fun b hb e=>by injection e with e;omega) (Q:=fun b=>w.heap.size<b) (fun b hb _=>by omega));clear hrc hrf hvc hvf;have hvo:=hC9.b2.cell;have hvg:=hC9.b2.frozen;have hrc:=HC9.out.b1.cell;have hrf:=HC9.out.b1.frozen;have hvc:=HC9.out.b2.cell;have hvf:=HC9.out.b2.frozen;clear hG hQ hR hC9 hgs hb9 HP8));obtain⟨hset,hfin⟩:=pd HC9.out HP9.out hgl HR.out HN9.out HS9.out;simp only[World.setCells,ak,Nat.reduceAdd]at hset hfin;exact bodyPost_ret (v:= .agg #[.string (ae tx), .slice C n cap, .slice B m d]) (by simp[results,results33,go_sem,hset]) rfl hfin
   |false=>
    rw[hd]at hed;obtain⟨k,rfl⟩: ∃k',k=k'+1:=⟨k-1,by omega⟩
    obtain⟨⟨⟨tk3,tx3,tv3,tf3⟩,τ1⟩,hy3⟩: ∃y,τ.take s.length 1=y:=⟨_,rfl⟩
    have hs3:=i1 hy3;have hs4:τ1.isD=true\/τ1.size+1=τ.size:=by
     unfold RS.take at hy3;split at hy3
     ·rename_i hk;have:=RS.tail_size (σ:=τ) (by rw[hk];decide);injection hy3 with _ e;rw[<-e];exact .inr this.symm
     ·injection hy3 with _ e;rw[<-e]
      cases τ with
      |dead a b=>exact .inl rfl
      |live l=>exact .inl rfl
    have hfd3:=ly tk3 tv3 tf3 tx3;have HYs:=G (show(if τ1.is kh then d_ s.length k (acc++[tx3]) τ1.tail else(acc++[tx3],τ1))=y0 from by rw[<-HYe.out,d_,hd,hy3];rfl);clear HYe;go_wp2_with fail;have HX:=G HCr.out.b2;have hxg:u1.heap.size≠g:=HCr.out.n2;have hgr:=HPr.out.lt;have hxr:=HCr.out.b2.lt;clear hrc hrf hvc hvf hec;refine bC 6 7 [(3,fun v=>v= .agg #[.int .i64 tk3, .string (ae tx3), .int .i64 tv3, .int .i64 tf3],fun v wx=>QA wx g s ts τ1),(5,fun v=> ∃gb,v= .slice (some ⟨gb,0,none⟩) 1 1,fun v wx=> ∀gb,v= .slice (some ⟨gb,0,none⟩) 1 1->wr.heap.size<=gb/\aT wx gb 9 #[.string (ae tx3)])] 3 (some g) mixed (by kernel_rfl)
     ⟨fun _ _ _ h hx=>h.ext hx,fun _ _ _ h hx gb e=>⟨(h gb e).1,(h gb e).2.ext hx⟩,trivial⟩ ⟨.inl rfl, .inr fun _ _ _ h hx gb e=>⟨(h gb e).1,(h gb e).2.grown hx (fun e'=>by have:=(h gb e).1;injection e' with e';omega)⟩,trivial⟩ ?_
    repeat (refine sx ?_ (fun w1 hU=> ?_) ?_;rotate_left;(focus have f1:=(HX.out.grown (aD hU) (fun e=>hxg (M e))).cell;clear hU;go_simp<;>with_reducible rfl);simp only[bf,be,bc,a_,a8])
    refine ce _ _ (by rfl) rfl ⟨_,rfl⟩ rfl (fun w6 hT hp K hK=> ?_) ?_
    ·clear hp;have hc:=j7 g s ts τ 1 (by decide) w6 (HPr.out.ext hT.un);rw[hy3]at hc;simp only[vM]at hc;clear hT;go_simp;refine hc.mono ?_;rintro e w7 ⟨rfl,h1,hG⟩;exact hK _ _ hG rfl h1
    rintro _ rfl;simp only[bf,be,bc,a_,a8];repeat (refine sx ?_ (fun w1 hU=> ?_) ?_;rotate_left;(focus clear hU;go_simp<;>with_reducible rfl);simp only[bf,be,bc,a_,a8])
    refine bw _ _ (by rfl) rfl ⟨_,0,rfl⟩ (by simp) (fun w6 hU hp K hK=> ?_) ?_
    ·have hz6:=(aD hU).size;clear hp hU;go_simp;exact hK _ _ (O w6 _) ⟨_,rfl⟩ (fun gb e=>by injection e with e;injection e with e;injection e with e;subst e;exact⟨hz6,ai w6 _ _⟩)
    rintro _ ⟨gb,rfl⟩;simp only[bf,be,bc,a_,a8];intro w8 hw8 hp;obtain⟨hgb,hB3⟩:=hp _ (.head _) gb rfl;have h3:=hp _ (.tail _ (.head _));clear hp;simp only[ab,ap];have hw8:=aD hw8;have HC8:=G (HCr.out.st hw8);have HO8:=G (HOr.out.grownN hw8 (fun k e=>by injection e with e;omega));have HP8:=G (show QA w8 g s ts τ1 from h3);have hz8:=hw8.size;have hrow:=aJ HO8.out;have hrw:=fun k hk=>(hrow k hk).1;clear hw8 h3;refine cQ zZ rfl _ _ rfl (u1.heap.size+1) _ n (lY acc) rfl (by have:=HO8.out;unfold kH at this;rw[hn]at this;exact this) gb [.string (ae tx3)] rfl hB3 rfl (by intro u hu;rw[cS]at hu;subst hu;rfl) (by omega) (by decide) (by omega) ?_;intro A' cap' w9 hq1 hq2 hq3;have hC9:lu w g w.heap.size u1.heap.size 68 68 #[.string ⟨#[]⟩, .slice none 0 0, .slice none 0 0] #[.string (ae tx), .slice C n cap, .slice none 0 0] w9:=by
     have h8:=HC8.out;have hz:=h8.b2.lt;refine⟨⟨hq2.os.trans h8.gr.os,hq2.tape.trans h8.gr.tape,hq2.output.trans h8.gr.output,aS h8.gr.size hq2.size,fun i hi hne=>(hq2.block i (an hi h8.gr.size) (fun e=>by have:=hrw i e.symm;omega)).trans (h8.gr.block i hi hne)⟩,h8.b1.grown hq2 (fun e=>by have:=hrw _ e.symm;omega),h8.b2.grown hq2 (fun e=>by have:=hrw _ e.symm;omega),h8.n1,h8.n2⟩
    have hgs:=cg w9 u1.heap.size 1 (.slice (some ⟨A',0,none⟩) (n+1) cap');have hb9:=hC9.b2.set 1 (.slice (some ⟨A',0,none⟩) (n+1) cap');simp only[aw,aN,aO]at hb9;have HCA:=G (show lu w g w.heap.size u1.heap.size 68 68 #[.string ⟨#[]⟩, .slice none 0 0, .slice none 0 0] #[.string (ae tx), .slice (some ⟨A',0,none⟩) (n+1) cap', .slice none 0 0] _ from⟨bX hC9.gr hgs hpv,hC9.b1.grown hgs (fun e=>hpn (M e)),hb9,hC9.n1,hC9.n2⟩);have HPA:=G ((HP8.out.grown hq2 (fun k e=>by have:=hrw k e;omega)).grown hgs (fun k e=>by injection e with e;omega));have HOA:=G (kH.grownN (show kH w9 (u1.heap.size+1) (.slice (some ⟨A',0,none⟩) (n+1) cap') (acc++[tx3]) by unfold kH;simpa[lY,hn]using hq1) hgs (fun k e=>by injection e with e;omega));have hvo:=hC9.b2.cell;have hvg:=hC9.b2.frozen;clear hq1 hq2 hq3 hC9 hgs hb9 hrow hrw hB3
    cases hcm:τ1.is kh with
    |true=>
     have hzc:=dm hcm;have HYN:=G (show d_ s.length k (acc++[tx3]) τ1.tail=y0 from by rw[<-HYs.out,if_pos hcm]);have hl1:τ1.isD=false:=by obtain⟨t,r,rfl⟩:=nh hcm;rfl
     have hs5:τ1.size+1=τ.size:=hs4.elim (fun h => by rw [hl1] at h; cases h) (fun h => h)
     go_wp2_with (go_at_call 31;refine(cD g s ts τ1 kh _ HPA.out).mono ?_;rw[hcm];simp only[if_true];rintro e wa ⟨rfl,h1,h2⟩;have HPB:=G h1;have HCB:=G (HCA.out.st h2);have HOB:=G (HOA.out.grownN h2 (fun k e=>by injection e with e;omega));clear h1 h2 HPA hvo hvg);go_roundw
     case rel=>exact⟨true,k,acc++[tx3],τ1.tail,some ⟨A',0,none⟩,n+1,cap',rfl,by simp[hn],by omega,fun _=>⟨by omega,by omega⟩,by omega,HYN,HPB,HOB,HCB⟩
     case measure=>simp only[uG];rw[HPr.out.qN,HPB.out.qN];omega
    |false=>
     have HYN:=G (show y0=(acc++[tx3],τ1)from by rw[<-HYs.out,if_neg (by rw[hcm];simp)]);go_wp2_with (go_at_call 31;refine(cD g s ts τ1 kh _ HPA.out).mono ?_;rw[hcm];simp only[aI,if_false];rintro e wa ⟨rfl,h1,h2⟩;have HPB:=G h1;have HCB:=G (HCA.out.st h2);have HOB:=G (HOA.out.grownN h2 (fun k e=>by injection e with e;omega));clear h1 h2 HPA hvo hvg);go_roundw
     case rel=>exact⟨false,k,acc++[tx3],τ1,some ⟨A',0,none⟩,n+1,cap',rfl,by simp[hn],by omega,fun h=>(by cases h),by omega,HYN,HPB,HOB,HCB⟩
     case measure=>simp[uG]
theorem nz (f:Nat) (hff:f<=400000) (σ:RS) (s:List UInt8) (ts:List bB) (w:World) (g:Nat) (h:QA w g s ts σ) (hf:4*σ.size+7<=f):Calls prog 33 #[.pointer (some ⟨g,0,none⟩)] w (yS g s ts w (eK s.length f σ)):=by
 cases hrp:((σ.take s.length 1).2.want s.length fi).is eg with
 |true=>exact ug f hff σ s ts w g h hf hrp
 |false=>exact uh f hff σ s ts w g h hf hrp
end Go.Proofs.YtelplgkppalmfaaGreatDoor
