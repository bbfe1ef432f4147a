/-
  Parts of the proof: PaA SeqK SeqP ParJ ParK ParL.
-/
import Derived.Defers
import Derived.Recover
import Derived.Laws.Pointers
import Derived.BigRegion
import Derived.WalkLawsBesides
import Derived.Test.YtelplgkppalmfaaGreatDoorPs09
import Derived.Test.YtelplgkppalmfaaGreatDoorPs00
set_option maxRecDepth 100000
set_option maxHeartbeats 8000000
set_option linter.unusedVariables false
set_option linter.unusedSimpArgs false
set_option linter.defProp false
namespace Go.Proofs.YtelplgkppalmfaaGreatDoor
open Go.Proofs.Tryz
section
open Go.RowKit
theorem zN {W0 w:World} {b0 b1 b2:Nat} {t0 t1 t2:TypeId} {x0 x1 y z:Value} (p0 p1 q r:Value) (hE:al W0 w) (h0:aT w b0 t0 #[x0,x1]) (h1:aT w b1 t1 #[y]) (h2:aT w b2 t2 #[z])
  (l0:W0.heap.size<=b0) (l1:W0.heap.size<=b1) (l2:W0.heap.size<=b2) (n01:b0≠b1) (n02:b0≠b2) (n12:b1≠b2):
  al W0 ((((w.setCell ⟨b0,0,none⟩ p0).setCell ⟨b0,1,none⟩ p1).setCell ⟨b1,0,none⟩ q).setCell ⟨b2,0,none⟩ r)/\aT ((((w.setCell ⟨b0,0,none⟩ p0).setCell ⟨b0,1,none⟩ p1).setCell ⟨b1,0,none⟩ q).setCell ⟨b2,0,none⟩ r) b0 t0 #[p0,p1]/\
   aT ((((w.setCell ⟨b0,0,none⟩ p0).setCell ⟨b0,1,none⟩ p1).setCell ⟨b1,0,none⟩ q).setCell ⟨b2,0,none⟩ r) b1 t1 #[q]/\aT ((((w.setCell ⟨b0,0,none⟩ p0).setCell ⟨b0,1,none⟩ p1).setCell ⟨b1,0,none⟩ q).setCell ⟨b2,0,none⟩ r) b2 t2 #[r]:=by
 refine⟨(((hE.set l0 _).set l0 _).set l1 _).set l2 _,?_,?_,?_⟩
 ·have:=(((h0.set 0 p0).set 1 p1).far (p:=⟨b1,0,none⟩) n01 q).far (p:=⟨b2,0,none⟩) n02 r;simpa using this
 ·have:=(((h1.far (p:=⟨b0,0,none⟩) (Ne.symm n01) p0).far (p:=⟨b0,1,none⟩) (Ne.symm n01) p1).set 0 q).far (p:=⟨b2,0,none⟩) n12 r;simpa using this
 ·have:=(((h2.far (p:=⟨b0,0,none⟩) (Ne.symm n02) p0).far (p:=⟨b0,1,none⟩) (Ne.symm n02) p1).far (p:=⟨b1,0,none⟩) (Ne.symm n12) q).set 0 r;simpa using this
theorem m_ (p0 p1 p2:Value) (w:World):
  CallsD prog 29 #[p0,p1,p2] .returning w fun e u' w'=>e= .returned (.tuple #[])/\u'= .returning/\w'=w:=by
 refine callsD_of_wpS func29 rfl fun c₀ cs hu=> ?_;apply wpS_seq;apply wpS_region;simp[wpOpsS,go_sem,recoverD,hu,ntmps29,Exit.thenS];apply wpS_seq;apply wpS_region;simp[wpOpsS,go_sem,Exit.thenS];refine wpS_cond (t:=false) (by simp[Act.eval]) ?_;simp only[aI,if_false];refine wpS_of_wp (wp_skip ?_)
 cases c₀;simp_all[bodyPostS,results,results29]
theorem qy (W0 w:World) (b0 b1 b2:Nat) (x0 x1 y z:Value) (at_ n:Int) (older:List PanicEntry) (hE:al W0 w) (h0:aT w b0 26 #[x0,x1]) (h1:aT w b1 3 #[y]) (h2:aT w b2 27 #[z])
  (l0:W0.heap.size<=b0) (l1:W0.heap.size<=b1) (l2:W0.heap.size<=b2) (n01:b0≠b1) (n02:b0≠b2) (n12:b1≠b2):
  CallsD prog 29 #[.pointer (some ⟨b0,0,none⟩), .pointer (some ⟨b1,0,none⟩), .pointer (some ⟨b2,0,none⟩)] (.panicking ({v:= .iface 81 (.agg #[.int .i64 at_, .int .i64 n]),recovered:=false}::older)) w fun e u' w'=>
   e= .returned (.tuple #[])/\u'= .panicking ({v:= .iface 81 (.agg #[.int .i64 at_, .int .i64 n]),recovered:=true}::older)/\
   al W0 w'/\aT w' b0 26 #[.slice none 0 0, .slice none 0 0]/\aT w' b1 3 #[.int .i64 at_]/\aT w' b2 27 #[.int .i64 n]:=by
 have hx:=O w (.cells #[.int .i64 at_, .int .i64 n] 81);have hBw:=ai w 81 #[.int .i64 at_, .int .i64 n];have HE:=G (hE.trans hx);have H0:=G (h0.ext hx);have H1:=G (h1.ext hx);have H2:=G (h2.ext hx);have HBw:=G hBw;have k0:b0≠w.heap.size:=fun e=>by have:=h0.lt;omega
 have k1:b1≠w.heap.size:=fun e=>by have:=h1.lt;omega
 have k2:b2≠w.heap.size:=fun e=>by have:=h2.lt;omega
 clear hx hBw hE h0 h1 h2;refine callsD_of_wpS func29 rfl fun c₀ cs hu=> ?_;apply wpS_seq;apply wpS_region;simp[wpOpsS,go_sem,recoverD,hu,ntmps29,Exit.thenS];have hT: ∀v a b c:Value,#[a,b,c]++((Array.replicate 19 undef).setIfInBounds 3 v).setIfInBounds 0 v= #[a,b,c,v,undef,undef,v,undef,undef,undef,undef,undef,undef,undef,undef,undef,undef,undef,undef,undef,undef,undef]:=by
  intro v a b c;apply Array.ext';simp[List.replicate_succ]
 rw[hT];clear hT;apply wpS_seq;apply wpS_region;simp[wpOpsS,go_sem,Exit.thenS];refine wpS_cond (t:=true) (by simp[Act.eval]) ?_;simp only[if_true];refine wpS_of_wp ?_;have hta: ∀(v:Value) (xT:TypeId) (w:World),(Instr.typeAssert (.iface 81 v) xT 81 true).run prog w= .ok (.tuple #[v, .bool true]) w:=fun v xT w=>by simp[Instr.typeAssert,run_underlying underlying81]
 go_wp2_with fail;clear hta;have hwb:w.heap.size≠b0/\w.heap.size≠b1/\w.heap.size≠b2:=⟨fun e=>k0 e.symm,fun e=>k1 e.symm,fun e=>k2 e.symm⟩
 obtain⟨m0,m1,m2⟩:=hwb;have hb:=HBw.out.cell;have c0:=H0.out.cell;have c1:=H1.out.cell;have c2:=H2.out.cell;have z0:=H0.out.frozen;have z1:=H1.out.frozen;have z2:=H2.out.frozen;generalize w.alloc (.cells #[.int .i64 at_, .int .i64 n] 81)=w5 at*;generalize w.heap.size=wb at*;go_region;have hfin:=zN (.slice none 0 0) (.slice none 0 0) (.int .i64 at_) (.int .i64 n) HE.out H0.out H1.out H2.out l0 l1 l2 n01 n02 n12;refine⟨rfl,_,rfl, .tuple #[],?_,rfl,rfl,hfin.1.drew,hfin.2.1.drew,hfin.2.2.1.drew,hfin.2.2.2.drew⟩;simp[results,results29]
end
section
open Go.RowKit
def PA (w:World) (g:Nat) (l:List bB) (en:Int):Prop:=
 ∃A c,aT w g 85 #[.slice A l.length c, .int .i64 en]/\qD w A c l/\ ∀b off,A=some ⟨b,off,none⟩->l≠ []->b<g
theorem PA.lt {w:World} {g:Nat} {l:List bB} {en:Int} (h:PA w g l en):g<w.heap.size:=let⟨_,_,hb,_⟩:=h;hb.lt
theorem PA.ext {w w':World} {g:Nat} {l:List bB} {en:Int} (h:PA w g l en) (he:al w w'):PA w' g l en:=let⟨A,c,hb,ht,hn⟩:=h;⟨A,c,hb.ext he,ht.ext he,hn⟩
theorem PA.grown {w w':World} {g:Nat} {l:List bB} {en:Int} {row:Option Nat} (h:PA w g l en) (hg:w.grownBy w' row) (h1: ∀k,row=some k->g<k):PA w' g l en:=by
 obtain⟨A,c,hb,ht,hn⟩:=h;refine⟨A,c,(hg.block g hb.lt (fun e=>by have:=h1 g e.symm;omega)).trans hb,⟨ht.le,ht.max,?_⟩,hn⟩;by_cases hl:l=[]
 ·exact .inl hl
 rcases ht.rd with h0|⟨b,off,ha,hlt,hc⟩
 ·exact absurd h0 hl
 ·have hbg:=hn b off ha hl;have hbk:=hg.block b hlt (fun e=>by have:=h1 b e.symm;omega);have cc: ∀o,w'.cell? ⟨b,o,none⟩=w.cell? ⟨b,o,none⟩:=fun o=>b8 (w:=w) (a:=⟨b,o,none⟩) hbk;exact .inr ⟨b,off,ha,an hlt hg.size,fun i hi=>let⟨q0,q1,q2,q3⟩:=hc i hi;⟨(cc _).trans q0,(cc _).trans q1,(cc _).trans q2,(cc _).trans q3⟩⟩
theorem PA.next {w:World} {g:Nat} {t:bB} {r:List bB} {en:Int} {b off c:Nat} (hb:aT w g 85 #[.slice (some ⟨b,off,none⟩) (t::r).length c, .int .i64 en]) (ht:qD w (some ⟨b,off,none⟩) c (t::r)) (hn:b<g) (hlt:b<w.heap.size)
  (off' c':Nat) (h:(c=1/\off'=off/\c'=0)\/(¬c=1/\off'=off+4/\c'=c-1)):PA (w.setCell ⟨g,0,none⟩ (.slice (some ⟨b,off',none⟩) r.length c')) g r en/\w.grownBy (w.setCell ⟨g,0,none⟩ (.slice (some ⟨b,off',none⟩) r.length c')) (some g):=by
 have hle:=ht.le;have hmx:=ht.max;simp only[ac]at hle;refine⟨⟨_,c',hb.set 0 _,⟨by omega,by omega,?_⟩,fun b' o' e _=> ?_⟩,⟨rfl,rfl,rfl,by simp[World.setCell],fun k _ hk=>Below.heap_setCell w _ _ k (fun e=>hk (by rw[e]))⟩⟩
 ·rcases h with⟨h1,_,_⟩|⟨_,rfl,_⟩
  ·exact .inl (aV (by omega))
  ·refine .inr ⟨b,off+4,rfl,by simpa[World.setCell]using hlt,fun i hi=> ?_⟩;obtain⟨b2,o2,e2,_,q0,q1,q2,q3⟩:=ht.at_ (i+1) (by simp;omega);injection e2 with e2;injection e2 with e2 e3;subst e2 e3;have cc: ∀o v,(w.setCell ⟨g,0,none⟩ v).cell? ⟨b,o,none⟩=w.cell? ⟨b,o,none⟩:=fun o v=>b8 (w:=w) (a:=⟨b,o,none⟩) (Below.heap_setCell w ⟨g,0,none⟩ v b (by show b≠g;omega));have en:off+4+i*4=off+(i+1)*4:=by omega
   simp only[aP]at q0 q1 q2 q3;rw[en,cc,cc,cc,cc];exact⟨q0,q1,q2,q3⟩
 ·injection e with e;injection e with e;subst e;exact hn
def bi (en:Int) (q:List bB) (n:Int):Ending:= .panicked [{v:= .iface 81 (.agg #[.int .i64 (pq en q), .int .i64 n]),recovered:=false}]
theorem eb (g:Nat) (l:List bB) (en:Int) (w:World) (h:PA w g l en):Calls prog 116 #[.pointer (some ⟨g,0,none⟩)] w fun e w'=>e= .returned (.agg #[.int .i64 (bV l).k, .string (ae (bV l).t), .int .i64 (bV l).v, .int .i64 (bV l).f])/\al w w':=by
 obtain⟨A,c,hb,ht,hn⟩:=h;have hbc:=(hb.alloc (.cells #[.int .i64 0, .string ⟨#[]⟩, .int .i64 0, .int .i64 0] 116)).cell
 cases l with
 |nil=>
  clear hb ht hn;go_enter func116,ntmps116;go_wp2_with fail;exact bodyPost_ret (v:= .agg #[.int .i64 0, .string ⟨#[]⟩, .int .i64 0, .int .i64 0]) (by simp[results,results116,go_sem]) rfl ⟨rfl,O w _⟩
 |cons t r=>
  obtain⟨b,off,rfl,hlt,h0,h1,h2,h3⟩:=ht.at_ 0 (by simp);have hE:al w (w.alloc (.cells #[.int .i64 0, .string ⟨#[]⟩, .int .i64 0, .int .i64 0] 116)):=O w _;have c0:=(hE.cell b _ hlt).trans h0;have c1:=(hE.cell b _ hlt).trans h1;have c2:=(hE.cell b _ hlt).trans h2;have c3:=(hE.cell b _ hlt).trans h3;simp only[bl,bp,aL]at c0 c1 c2 c3;obtain⟨n,hnn⟩: ∃n,(t::r).length=n:=⟨_,rfl⟩
  rw[hnn]at hbc;have hn0:0<n:=by rw[<-hnn];exact Nat.succ_pos _
  have hn0i:(0:Int)<n:=by omega
  have hn0b:((n:Int)==0)=false:=by rw[beq_eq_false_iff_ne];omega
  obtain⟨k,tx,v,f⟩:=t;simp only at c0 c1 c2 c3;clear hb ht hn hnn hE h0 h1 h2 h3;go_enter func116,ntmps116;go_wp2_with fail;exact bodyPost_ret (v:= .agg #[.int .i64 k, .string (ae tx), .int .i64 v, .int .i64 f]) (by simp[results,results116,go_sem]) rfl ⟨rfl,O w _⟩
theorem mU (g:Nat) (l:List bB) (en n:Int) (w:World) (h:PA w g l en):Calls prog 117 #[.pointer (some ⟨g,0,none⟩), .int .i64 n] w fun e w'=>e=bi en l n/\al w w':=by
 obtain⟨A,c,hb,ht,hn⟩:=h;have hbc:=hb.cell
 cases l with
 |nil=>
  clear hb ht hn;go_enter func117,ntmps117;go_wp2_with fail;exact⟨rfl,rfl,aG _⟩
 |cons t r=>
  obtain⟨b,off,rfl,hlt,c0,c1,c2,c3⟩:=ht.at_ 0 (by simp);simp only[bl,bp,aL]at c0 c1 c2 c3;obtain⟨m,hnn⟩: ∃n,(t::r).length=n:=⟨_,rfl⟩
  rw[hnn]at hbc;have hn0:0<m:=by rw[<-hnn];exact Nat.succ_pos _
  have hn0i:(0:Int)<m:=by omega
  obtain⟨k,tx,v,f⟩:=t;simp only at c0 c1 c2 c3;clear hb ht hn hnn c0 c1 c2;go_enter func117,ntmps117;go_wp2_with fail;exact⟨rfl,rfl,aG _⟩
theorem gi (g:Nat) (l:List bB) (en:Int) (s:List UInt8) (w:World) (h:PA w g l en):Calls prog 115 #[.pointer (some ⟨g,0,none⟩), .string (ae s)] w fun e w'=>e= .returned (.bool (b6 s l))/\al w w':=by
 have HN:=G (eb g l en w h);have HI:=G (show b6 s l=(((bV l).k==5||(bV l).k==2)&&(bV l).t==s)from rfl);clear h;generalize bV l=t at*;obtain⟨k,tx,v,f⟩:=t;simp only at HN HI
 cases h5:(k==5)<;>cases h2:(k==2)<;>cases hs:(tx==s);all_goals
  rw[h5,h2,hs]at HI;go_enter func115,ntmps115;go_wp2_with (go_at_call 116;refine HN.out.mono ?_;rintro e w1 ⟨rfl,hE⟩;have HX:=G (hE.alloc' (.cells #[.int .i64 k, .string (ae tx), .int .i64 v, .int .i64 f] 116));clear hE HN);go_ret;exact⟨by rw[HI.out];rfl,HX.out⟩
theorem cv (g:Nat) (l:List bB) (en:Int) (s:List UInt8) (w:World) (h:PA w g l en):Calls prog 61 #[.pointer (some ⟨g,0,none⟩), .string (ae s)] w fun e w'=>e= .returned (.bool (b6 s l))/\PA w' g (if b6 s l then l.tail else l) en/\w.grownBy w' (some g):=by
 have HI:=G (gi g l en s w h)
 cases hi:b6 s l with
 |false=>
  rw[hi]at HI;have HP:=G h;clear h;go_enter func61,ntmps61;go_wp2_with (go_at_call 115;refine HI.out.mono ?_;rintro e w1 ⟨rfl,hE⟩;have HX:=G hE;clear hE HI);go_ret;exact⟨rfl,HP.out.ext HX.out,HX.out.grownBy _⟩
 |true=>
  rw[hi]at HI;have HP:=G h;obtain⟨t,r,rfl⟩: ∃t r,l=t::r:=by
   cases l with
   |nil=>exact absurd rfl (k9 hi)
   |cons t r=>exact⟨t,r,rfl⟩
  clear h hi;go_enter func61,ntmps61;go_wp2_with (go_at_call 115;refine HI.out.mono ?_;rintro e w1 ⟨rfl,hE⟩;obtain⟨A,c,hb,ht,hn⟩:=HP.out.ext hE;obtain⟨b,off,rfl,hlt,_⟩:=ht.at_ 0 (by simp);have hbc:=hb.cell;have hbf:=hb.frozen;have HX:=G hE;clear hE HI)
  ·obtain⟨h1,h2⟩:=PA.next hb ht (hn b off rfl (by simp)) hlt off 0 (.inl ⟨by assumption,rfl,rfl⟩);go_ret;exact⟨rfl,h1,ah (HX.out.grownBy _) h2⟩
  ·obtain⟨h1,h2⟩:=PA.next hb ht (hn b off rfl (by simp)) hlt (off+4) (c-1) (.inr ⟨by assumption,rfl,rfl⟩);go_ret;exact⟨rfl,h1,ah (HX.out.grownBy _) h2⟩
theorem dZ (g:Nat) (l:List bB) (en:Int) (s:List UInt8) (w:World) (h:PA w g l en) (hi:b6 s l=true):Calls prog 63 #[.pointer (some ⟨g,0,none⟩), .string (ae s)] w fun e w'=>e= .returned (.tuple #[])/\PA w' g l.tail en/\w.grownBy w' (some g):=by
 have HG:=G (cv g l en s w h);rw[hi]at HG;simp only[if_true]at HG;clear h hi;go_enter func63,ntmps63;go_wp2_with (go_at_call 61;refine HG.out.mono ?_;rintro e w1 ⟨rfl,h1,h2⟩;have H1:=G h1;have H2:=G h2;clear h1 h2 HG)
 go_end0
 exact⟨rfl,H1.out,H2.out⟩
theorem fV (g:Nat) (l:List bB) (en:Int) (s:List UInt8) (w:World) (h:PA w g l en) (hi:b6 s l=false):Calls prog 63 #[.pointer (some ⟨g,0,none⟩), .string (ae s)] w fun e w'=>e=bi en l 3/\w.grownBy w' (some g):=by
 have HG:=G (cv g l en s w h);rw[hi]at HG;simp only[aI,if_false]at HG;clear h hi;go_enter func63,ntmps63
 go_wp2_with (first
  |(go_at_call 61;refine HG.out.mono ?_;rintro e w1 ⟨rfl,h1,h2⟩;have H1:=G h1;have H2:=G h2;clear h1 h2 HG)
  |(go_at_call 117;refine(mU g l en 3 _ H1.out).mono ?_;unfold bi;rintro e w2 ⟨rfl,h3⟩;have H3:=G (ah H2.out (h3.grownBy _));clear h3))
 exact⟨rfl,rfl,H3.out⟩
theorem mP (g:Nat) (l:List bB) (en:Int) (w:World) (h:PA w g l en) (hi: ¬(bV l).k=1):Calls prog 64 #[.pointer (some ⟨g,0,none⟩)] w fun e w'=>e=bi en l 3/\w.grownBy w' (some g):=by
 have HN:=G (eb g l en w h);have HP:=G h;generalize bV l=t at*;obtain⟨k,tx,v,f⟩:=t;simp only at HN hi;have hk:(k==1)=false:=beq_eq_false_iff_ne.2 hi;clear h hi;go_enter func64,ntmps64
 go_wp2_with (first
  |(go_at_call 116;refine HN.out.mono ?_;rintro e w1 ⟨rfl,hE⟩;have HX:=G (hE.alloc' (.cells #[.int .i64 k, .string (ae tx), .int .i64 v, .int .i64 f] 116));clear hE HN)
  |(go_at_call 117;refine(mU g l en 3 _ (HP.out.ext HX.out)).mono ?_;unfold bi;rintro e w2 ⟨rfl,h3⟩;have H3:=G (HX.out.trans h3);clear h3))
 exact⟨rfl,rfl,H3.out.grownBy _⟩
theorem iJ (g:Nat) (l:List bB) (en:Int) (w:World) (h:PA w g l en) (hi:(bV l).k=1):Calls prog 64 #[.pointer (some ⟨g,0,none⟩)] w fun e w'=>e= .returned (.string (ae (bV l).t))/\PA w' g l.tail en/\w.grownBy w' (some g):=by
 have HN:=G (eb g l en w h);have HP:=G h;obtain⟨t,r,rfl⟩: ∃t r,l=t::r:=by
  cases l with
  |nil=>exact absurd hi (by decide)
  |cons t r=>exact⟨t,r,rfl⟩
 clear h;obtain⟨k,tx,v,f⟩:=t;simp only[bV]at HN hi;obtain rfl:k=1:=hi;go_enter func64,ntmps64;go_wp2_with (go_at_call 116;refine HN.out.mono ?_;rintro e w1 ⟨rfl,hE⟩;have HX:=G (hE.alloc' (.cells #[.int .i64 1, .string (ae tx), .int .i64 v, .int .i64 f] 116));obtain⟨A,c,hb,ht,hn⟩:=HP.out.ext HX.out;obtain⟨b,off,rfl,hlt,_⟩:=ht.at_ 0 (by simp);have hbc:=hb.cell;have hbf:=hb.frozen;clear hE HN)
 ·obtain⟨h1,h2⟩:=PA.next hb ht (hn b off rfl (by simp)) hlt off 0 (.inl ⟨by assumption,rfl,rfl⟩);go_ret;exact⟨rfl,h1,ah (HX.out.grownBy _) h2⟩
 ·obtain⟨h1,h2⟩:=PA.next hb ht (hn b off rfl (by simp)) hlt (off+4) (c-1) (.inr ⟨by assumption,rfl,rfl⟩);go_ret;exact⟨rfl,h1,ah (HX.out.grownBy _) h2⟩
end
section
open Go.RowKit
theorem qp (s:List UInt8):s=[124,124]\/s=[38,38]\/s=[61,61]\/s=[33,61]\/s=[60]\/s=[60,61]\/s=[62]\/s=[62,61]\/s=[43]\/s=[45]\/s=[42]\/s=[47]\/s=[37]\/
  (((s==[124,124])=false/\(s==[38,38])=false/\(s==[61,61])=false/\(s==[33,61])=false/\(s==[60])=false/\(s==[60,61])=false/\(s==[62])=false/\(s==[62,61])=false/\(s==[43])=false/\(s==[45])=false/\(s==[42])=false/\(s==[47])=false/\(s==[37])=false)/\eW s=0):=by
 by_cases h1:s=[124,124]
 ·exact .inl h1
 by_cases h2:s=[38,38]
 ·exact(.inr (.inl h2))
 by_cases h3:s=[61,61]
 ·exact(.inr (.inr (.inl h3)))
 by_cases h4:s=[33,61]
 ·exact(.inr (.inr (.inr (.inl h4))))
 by_cases h5:s=[60]
 ·exact(.inr (.inr (.inr (.inr (.inl h5)))))
 by_cases h6:s=[60,61]
 ·exact(.inr (.inr (.inr (.inr (.inr (.inl h6))))))
 by_cases h7:s=[62]
 ·exact(.inr (.inr (.inr (.inr (.inr (.inr (.inl h7)))))))
 by_cases h8:s=[62,61]
 ·exact(.inr (.inr (.inr (.inr (.inr (.inr (.inr (.inl h8))))))))
 by_cases h9:s=[43]
 ·exact(.inr (.inr (.inr (.inr (.inr (.inr (.inr (.inr (.inl h9)))))))))
 by_cases h10:s=[45]
 ·exact(.inr (.inr (.inr (.inr (.inr (.inr (.inr (.inr (.inr (.inl h10))))))))))
 by_cases h11:s=[42]
 ·exact(.inr (.inr (.inr (.inr (.inr (.inr (.inr (.inr (.inr (.inr (.inl h11)))))))))))
 by_cases h12:s=[47]
 ·exact(.inr (.inr (.inr (.inr (.inr (.inr (.inr (.inr (.inr (.inr (.inr (.inl h12))))))))))))
 by_cases h13:s=[37]
 ·exact(.inr (.inr (.inr (.inr (.inr (.inr (.inr (.inr (.inr (.inr (.inr (.inr (.inl h13)))))))))))))
 refine(.inr (.inr (.inr (.inr (.inr (.inr (.inr (.inr (.inr (.inr (.inr (.inr (.inr ⟨⟨beq_eq_false_iff_ne.2 h1,beq_eq_false_iff_ne.2 h2,beq_eq_false_iff_ne.2 h3,beq_eq_false_iff_ne.2 h4,beq_eq_false_iff_ne.2 h5,beq_eq_false_iff_ne.2 h6,beq_eq_false_iff_ne.2 h7,beq_eq_false_iff_ne.2 h8,beq_eq_false_iff_ne.2 h9,beq_eq_false_iff_ne.2 h10,beq_eq_false_iff_ne.2 h11,beq_eq_false_iff_ne.2 h12,beq_eq_false_iff_ne.2 h13⟩,?_⟩)))))))))))));unfold eW;rw[if_neg h1,if_neg h2,if_neg h3,if_neg h4,if_neg h5,if_neg h6,if_neg h7,if_neg h8,if_neg h9,if_neg h10,if_neg h11,if_neg h12,if_neg h13]
theorem j9 (s:List UInt8) (w:World):Calls prog 123 #[.string (ae s)] w fun e w'=>e= .returned (.int .i64 (eW s))/\w=w':=by
 rcases qp s with rfl|rfl|rfl|rfl|rfl|rfl|rfl|rfl|rfl|rfl|rfl|rfl|rfl|⟨⟨e1,e2,e3,e4,e5,e6,e7,e8,e9,e10,e11,e12,e13⟩,hz⟩
 all_goals
  go_enter func123,ntmps123;go_wp2_with fail;go_ret;refine⟨?_,rfl⟩;first|exact congrArg (fun n=>Ending.returned (.int .i64 n)) hz.symm|rfl|(simp[eW];done)
theorem i8 (s:List UInt8) (w:World):Calls prog 23 #[.string (ae s)] w fun e w'=>e= .returned (.int .i64 (eW s))/\w=w':=by
 rcases qp s with rfl|rfl|rfl|rfl|rfl|rfl|rfl|rfl|rfl|rfl|rfl|rfl|rfl|⟨⟨e1,e2,e3,e4,e5,e6,e7,e8,e9,e10,e11,e12,e13⟩,hz⟩
 all_goals
  go_enter func23,ntmps23;go_wp2_with fail;go_ret;refine⟨?_,rfl⟩;first|exact congrArg (fun n=>Ending.returned (.int .i64 n)) hz.symm|rfl|(simp[eW];done)
theorem bG (b:Nat): ∀(vs:List Value) (o:Nat) (w:World),w.grownBy (w.setCells b o vs) (some b)
 | [],o,w=>⟨rfl,rfl,rfl,ag _,fun _ _ _=>rfl⟩
 |v::r,o,w=>ah (show w.grownBy (w.setCell ⟨b,o,none⟩ v) (some b)from⟨rfl,rfl,rfl,by simp[World.setCell],fun k _ hk=>Below.heap_setCell w ⟨b,o,none⟩ v k (fun e=>hk (by rw[e]))⟩) (bG b r (o+1) _)
theorem bX {w0 w w':World} {g k:Nat} (h:w0.grownBy w (some g)) (h':w.grownBy w' (some k)) (hk:w0.heap.size<=k):w0.grownBy w' (some g):=
 ⟨h'.os.trans h.os,h'.tape.trans h.tape,h'.output.trans h.output,aS h.size h'.size,fun i hi hn=>(h'.block i (an hi h.size) (fun e=>by injection e with e;omega)).trans (h.block i hi hn)⟩
theorem aT.put6 {w:World} {g:Nat} {t:TypeId} {x0 x1 x2 x3 x4 x5:Value} (h:aT w g t #[x0,x1,x2,x3,x4,x5]) (a b c d e f:Value):aT (w.setCells g 0 [a,b,c,d,e,f]) g t #[a,b,c,d,e,f]:=by
 have:=(((((h.set 0 a).set 1 b).set 2 c).set 3 d).set 4 e).set 5 f;simpa[World.setCells]using this
theorem aT.put5' {w:World} {g:Nat} {t:TypeId} {x0 x1 x2 x3 x4:Value} (h:aT w g t #[x0,x1,x2,x3,x4]) (a b c d e:Value):aT (w.setCells g 0 [a,b,c,d,e]) g t #[a,b,c,d,e]:=by
 have:=((((h.set 0 a).set 1 b).set 2 c).set 3 d).set 4 e;simpa[World.setCells]using this
def nF (g:Nat) (en:Int) (w:World) (r:PR Ex) (e:Ending) (w':World):Prop:=
 w.grownBy w' (some g)/\match r with
 | .ok (x,q)=> ∃A n c,e= .returned (.agg #[.int .i64 x.k, .string (ae x.op), .string (ae x.nm), .string (ae x.tx), .int .i64 x.v, .slice A n c])/\bZ w' (fun b=>w.heap.size<=b) (.slice A n c) x.args/\PA w' g q en
 | .error (q,n)=>e=bi en q n
def eF (f:Nat):Prop:= ∀(n:Int) (l:List bB) (en:Int) (w:World) (g:Nat),PA w g l en->1<=n->n<=7->4*l.length+2<=f->Calls prog 141 #[.pointer (some ⟨g,0,none⟩), .int .i64 n] w (nF g en w (bT f n l))
def ox (f:Nat):Prop:= ∀(l:List bB) (en:Int) (w:World) (g:Nat),PA w g l en->4*l.length+1<=f->Calls prog 156 #[.pointer (some ⟨g,0,none⟩)] w (nF g en w (cE f l))
def ip (f:Nat):Prop:= ∀(nm:List UInt8) (l:List bB) (en:Int) (w:World) (g:Nat),PA w g l en->4*l.length+1<=f->Calls prog 157 #[.pointer (some ⟨g,0,none⟩), .string (ae nm)] w (nF g en w (ch f nm l))
end
section
open Go.RowKit
theorem hd_cons {l:List bB} {k:Int} (h:(bV l).k=k) (hk:k≠0): ∃t r,l=t::r:=by
 cases l with
 |nil=>exact absurd h.symm hk
 |cons t r=>exact⟨t,r,rfl⟩
theorem PA.next_a {w:World} {g:Nat} {t:bB} {r:List bB} {en:Int} {b off c:Nat} (hb:aT w g 85 #[.slice (some ⟨b,off,none⟩) (t::r).length c, .int .i64 en]) (ht:qD w (some ⟨b,off,none⟩) c (t::r)) (hn:b<g) (hlt:b<w.heap.size) (h:c=1):
  PA (w.setCell ⟨g,0,none⟩ (.slice (some ⟨b,off,none⟩) r.length 0)) g r en/\w.grownBy (w.setCell ⟨g,0,none⟩ (.slice (some ⟨b,off,none⟩) r.length 0)) (some g):=PA.next hb ht hn hlt _ _ (.inl ⟨h,rfl,rfl⟩)
theorem PA.next_b {w:World} {g:Nat} {t:bB} {r:List bB} {en:Int} {b off c:Nat} (hb:aT w g 85 #[.slice (some ⟨b,off,none⟩) (t::r).length c, .int .i64 en]) (ht:qD w (some ⟨b,off,none⟩) c (t::r)) (hn:b<g) (hlt:b<w.heap.size) (h: ¬c=1):
  PA (w.setCell ⟨g,0,none⟩ (.slice (some ⟨b,off+4,none⟩) r.length (c-1))) g r en/\w.grownBy (w.setCell ⟨g,0,none⟩ (.slice (some ⟨b,off+4,none⟩) r.length (c-1))) (some g):=PA.next hb ht hn hlt _ _ (.inr ⟨h,rfl,rfl⟩)
theorem fY {g:Nat} {en:Int} {w w':World} {r:PR Ex} {q:List bB} {n:Int} (hr:r= .error (q,n)) (hG:w.grownBy w' (some g)):nF g en w r (bi en q n) w':=by
 subst hr;exact⟨hG,rfl⟩
theorem mN {f:Nat} {l:List bB} (h3: ¬(bV l).k=3) (h4: ¬(bV l).k=4) (h1: ¬(bV l).k=1) (hs:(b6 ln l||b6 l8 l)=true):cE (f+1) l=(cE f l.tail).then fun x q=> .ok (.mk 6 (bV l).t [] [] 0 [x],q):=by
 rw[cE,if_neg h3,if_neg h4,if_neg h1,if_pos hs]
theorem iG {f:Nat} {l:List bB} (h3: ¬(bV l).k=3) (h4: ¬(bV l).k=4) (h1: ¬(bV l).k=1) (hs:(b6 ln l||b6 l8 l)=false):cE (f+1) l=(bP fi l).then fun _ r=>(bT f 1 r).then fun x r=>(bP eg r).then fun _ r=> .ok (x,r):=by
 rw[cE,if_neg h3,if_neg h4,if_neg h1,if_neg (by rw[hs];simp)]
theorem jU {w W:World} {g pr:Nat} {en:Int} {q:List bB} {z0 z1 z2 z3 z4 z5:Value} {r:PR Ex} (x:Ex) (k:Int) (so sn st:ByteArray) (v:Int) (A:Option Addr) (n c:Nat) (hr:r= .ok (x,q)) (hk:x.k=k) (ho:ae x.op=so) (hn:ae x.nm=sn) (ht:ae x.tx=st) (hv:x.v=v) (hpr:pr=w.heap.size)
  (hB:aT W pr 131 #[z0,z1,z2,z3,z4,z5]) (hG:w.grownBy W (some g)) (hPA:PA W g q en) (hg:g<w.heap.size) (hR:bZ W (fun b=>w.heap.size+1<=b) (.slice A n c) x.args):
  (∀i,(W.setCells pr 0 [.int .i64 k, .string so, .string sn, .string st, .int .i64 v, .slice A n c]).cell? ⟨pr,i,none⟩=(#[.int .i64 k, .string so, .string sn, .string st, .int .i64 v, .slice A n c]:Array Value)[i]?)/\
  nF g en w r (.returned (.agg #[.int .i64 k, .string so, .string sn, .string st, .int .i64 v, .slice A n c])) (W.setCells pr 0 [.int .i64 k, .string so, .string sn, .string st, .int .i64 v, .slice A n c]):=by
 subst hr hk ho hn ht hv hpr;have hc:=bG w.heap.size [.int .i64 x.k, .string (ae x.op), .string (ae x.nm), .string (ae x.tx), .int .i64 x.v, .slice A n c] 0 W;refine⟨(aT.put6 hB _ _ _ _ _ _).cell,bX hG hc (ag _),A,n,c,rfl,hR.keep (.of_grown hc fun b hb e=>by injection e with e;omega) fun b hb _=>by omega,hPA.grown hc fun k e=>by injection e with e;omega⟩
theorem ur (f:Nat) (l:List bB) (en:Int) (w:World) (g:Nat) (h:PA w g l en) (hk:(bV l).k=3):Calls prog 156 #[.pointer (some ⟨g,0,none⟩)] w (nF g en w (cE (f+1) l)):=by
 obtain⟨⟨k,tx,v,fr⟩,r,rfl⟩:=hd_cons hk (by decide);obtain rfl:k=3:=hk;have HR:=G (show cE (f+1) (⟨3,tx,v,fr⟩::r)= .ok (.mk 1 [] [] [] v [],r)from by rw[cE];rfl);have HX0:=G (O w (.cells #[.int .i64 0, .string ⟨#[]⟩, .string ⟨#[]⟩, .string ⟨#[]⟩, .int .i64 0, .slice none 0 0] 131));have HB0:=G (ai w 131 #[.int .i64 0, .string ⟨#[]⟩, .string ⟨#[]⟩, .string ⟨#[]⟩, .int .i64 0, .slice none 0 0]);have HN:=G (eb g _ en _ (h.ext HX0.out));have HP:=G h;have hgl:=h.lt;clear h;simp only[bV]at HN;go_enter func156,ntmps156;go_wp2_with (go_at_call 116;refine HN.out.mono ?_;rintro e w1 ⟨rfl,hE⟩;have HX1:=G (hE.alloc' (.cells #[.int .i64 3, .string (ae tx), .int .i64 v, .int .i64 fr] 116));have HB1:=G (HB0.out.ext HX1.out);have HT1:=G (ai w1 116 #[.int .i64 3, .string (ae tx), .int .i64 v, .int .i64 fr]);have hrc:=HB1.out.cell;have hrf:=HB1.out.frozen;have hrg:w.heap.size≠g:=(by omega);have hgr:g≠w.heap.size:=(by omega);clear hE HN;obtain⟨A,c,hb,ht,hn⟩:=(HP.out.ext HX0.out).ext HX1.out;obtain⟨b,off,rfl,hlt,_⟩:=ht.at_ 0 (by simp);have hbc:=hb.cell;have hbf:=hb.frozen);all_goals
  first|have hq:=PA.next_a hb ht (hn b off rfl (by simp)) hlt (by assumption)|have hq:=PA.next_b hb ht (hn b off rfl (by simp)) hlt (by assumption)
  obtain⟨h1,h2⟩:=hq;have hB2:=HB1.out.grown h2 (fun e=>hrg (M e));obtain⟨hset,hfin⟩:=jU (.mk 1 [] [] [] v []) 1 ⟨#[]⟩ ⟨#[]⟩ ⟨#[]⟩ v none 0 0 HR.out rfl rfl rfl rfl rfl rfl hB2 (ah ((HX0.out.trans HX1.out).grownBy _) h2) h1 hgl (.nil _ _);simp only[World.setCells,ak,Nat.reduceAdd]at hset hfin;exact bodyPost_ret (v:= .agg #[.int .i64 1, .string ⟨#[]⟩, .string ⟨#[]⟩, .string ⟨#[]⟩, .int .i64 v, .slice none 0 0]) (by simp[results,results156,go_sem,hset]) rfl hfin
theorem uq (f:Nat) (l:List bB) (en:Int) (w:World) (g:Nat) (h:PA w g l en) (hk:(bV l).k=4):Calls prog 156 #[.pointer (some ⟨g,0,none⟩)] w (nF g en w (cE (f+1) l)):=by
 obtain⟨⟨k,tx,v,fr⟩,r,rfl⟩:=hd_cons hk (by decide);obtain rfl:k=4:=hk;have HR:=G (show cE (f+1) (⟨4,tx,v,fr⟩::r)= .ok (.mk 2 [] [] tx 0 [],r)from by rw[cE];rfl);have HX0:=G (O w (.cells #[.int .i64 0, .string ⟨#[]⟩, .string ⟨#[]⟩, .string ⟨#[]⟩, .int .i64 0, .slice none 0 0] 131));have HB0:=G (ai w 131 #[.int .i64 0, .string ⟨#[]⟩, .string ⟨#[]⟩, .string ⟨#[]⟩, .int .i64 0, .slice none 0 0]);have HN:=G (eb g _ en _ (h.ext HX0.out));have HP:=G h;have hgl:=h.lt;clear h;simp only[bV]at HN;go_enter func156,ntmps156;go_wp2_with (go_at_call 116;refine HN.out.mono ?_;rintro e w1 ⟨rfl,hE⟩;have HX1:=G (hE.alloc' (.cells #[.int .i64 4, .string (ae tx), .int .i64 v, .int .i64 fr] 116));have HB1:=G (HB0.out.ext HX1.out);have HT1:=G (ai w1 116 #[.int .i64 4, .string (ae tx), .int .i64 v, .int .i64 fr]);have hrc:=HB1.out.cell;have hrf:=HB1.out.frozen;have hrg:w.heap.size≠g:=(by omega);have hgr:g≠w.heap.size:=(by omega);clear hE HN;obtain⟨A,c,hb,ht,hn⟩:=(HP.out.ext HX0.out).ext HX1.out;obtain⟨b,off,rfl,hlt,_⟩:=ht.at_ 0 (by simp);have hbc:=hb.cell;have hbf:=hb.frozen);all_goals
  first|have hq:=PA.next_a hb ht (hn b off rfl (by simp)) hlt (by assumption)|have hq:=PA.next_b hb ht (hn b off rfl (by simp)) hlt (by assumption)
  obtain⟨h1,h2⟩:=hq;have hB2:=HB1.out.grown h2 (fun e=>hrg (M e));obtain⟨hset,hfin⟩:=jU (.mk 2 [] [] tx 0 []) 2 ⟨#[]⟩ ⟨#[]⟩ (ae tx) 0 none 0 0 HR.out rfl rfl rfl rfl rfl rfl hB2 (ah ((HX0.out.trans HX1.out).grownBy _) h2) h1 hgl (.nil _ _);simp only[World.setCells,ak,Nat.reduceAdd]at hset hfin;exact bodyPost_ret (v:= .agg #[.int .i64 2, .string ⟨#[]⟩, .string ⟨#[]⟩, .string (ae tx), .int .i64 0, .slice none 0 0]) (by simp[results,results156,go_sem,hset]) rfl hfin
theorem sZ (f:Nat) (l:List bB) (en:Int) (w:World) (g:Nat) (h:PA w g l en) (hN:ip f) (hf:4*l.length+1<=f+1) (hk:(bV l).k=1):Calls prog 156 #[.pointer (some ⟨g,0,none⟩)] w (nF g en w (cE (f+1) l)):=by
 obtain⟨⟨k,nm,v,fr⟩,r,rfl⟩:=hd_cons hk (by decide);obtain rfl:k=1:=hk;have HRP:=G (show cE (f+1) (⟨1,nm,v,fr⟩::r)=ch f nm r from by rw[cE];rfl);have HX0:=G (O w (.cells #[.int .i64 0, .string ⟨#[]⟩, .string ⟨#[]⟩, .string ⟨#[]⟩, .int .i64 0, .slice none 0 0] 131));have HB0:=G (ai w 131 #[.int .i64 0, .string ⟨#[]⟩, .string ⟨#[]⟩, .string ⟨#[]⟩, .int .i64 0, .slice none 0 0]);have HN:=G (eb g _ en _ (h.ext HX0.out));have HP:=G h;have hgl:=h.lt;clear h;simp only[bV]at HN;have hf':4*r.length+1<=f:=by simp only[ac]at hf;omega
 cases hpn:ch f nm r with
 |error q=>
  obtain⟨q,n⟩:=q;rw[hpn]at HRP;go_enter func156,ntmps156;go_wp2_with (first|(go_at_call 116;refine HN.out.mono ?_;rintro e w1 ⟨rfl,hE⟩;have HX1:=G (hE.alloc' (.cells #[.int .i64 1, .string (ae nm), .int .i64 v, .int .i64 fr] 116));have HB1:=G (HB0.out.ext HX1.out);have HT1:=G (ai w1 116 #[.int .i64 1, .string (ae nm), .int .i64 v, .int .i64 fr]);have hrc:=HB1.out.cell;have hrf:=HB1.out.frozen;have hrg:w.heap.size≠g:=(by omega);have hgr:g≠w.heap.size:=(by omega);clear hE HN;have HP1:=G ((HP.out.ext HX0.out).ext HX1.out))|(go_at_call 64;refine(iJ g _ en _ HP1.out rfl).mono ?_;simp only[bV,List.tail_cons];rintro e w2 ⟨rfl,h1,h2⟩;have HP2:=G h1;have HG2:=G (ah ((HX0.out.trans HX1.out).grownBy _) h2);have HB2:=G (HB1.out.grown h2 (fun e=>hrg (M e)));clear h1 h2)|(go_at_call 157;refine(hN nm r en _ g HP2.out hf').mono ?_;intro e w3 hh;rw[hpn]at hh;obtain⟨hG,rfl⟩:=hh;unfold bi;have HG3:=G (ah HG2.out hG);clear hG));exact⟨rfl,fY HRP.out HG3.out⟩
 |ok p=>
  obtain⟨x,q⟩:=p;rw[hpn]at HRP;have HR:=HRP;go_enter func156,ntmps156;go_wp2_with (first|(go_at_call 116;refine HN.out.mono ?_;rintro e w1 ⟨rfl,hE⟩;have HX1:=G (hE.alloc' (.cells #[.int .i64 1, .string (ae nm), .int .i64 v, .int .i64 fr] 116));have HB1:=G (HB0.out.ext HX1.out);have HT1:=G (ai w1 116 #[.int .i64 1, .string (ae nm), .int .i64 v, .int .i64 fr]);have hrc:=HB1.out.cell;have hrf:=HB1.out.frozen;have hrg:w.heap.size≠g:=(by omega);have hgr:g≠w.heap.size:=(by omega);clear hE HN;have HP1:=G ((HP.out.ext HX0.out).ext HX1.out))|(go_at_call 64;refine(iJ g _ en _ HP1.out rfl).mono ?_;simp only[bV,List.tail_cons];rintro e w2 ⟨rfl,h1,h2⟩;have HP2:=G h1;have HG2:=G (ah ((HX0.out.trans HX1.out).grownBy _) h2);have HB2:=G (HB1.out.grown h2 (fun e=>hrg (M e)));clear h1 h2)|(go_at_call 157;refine(hN nm r en _ g HP2.out hf').mono ?_;intro e w3 hh;rw[hpn]at hh;obtain⟨hG,A,n,c,rfl,hR,hPA⟩:=hh;have HG3:=G (ah HG2.out hG);have HB3:=G (HB2.out.grown hG (fun e=>hrg (M e)));have hz2:w.heap.size+1<=w2.heap.size:=(by have:=HB2.out.lt;omega);have HRD:=G (hR.mono (fun b hb _=>aS hz2 hb));have HP3:=G hPA;clear hrc hrf;have hrc:=HB3.out.cell;have hrf:=HB3.out.frozen;clear hG hR hPA));obtain⟨hset,hfin⟩:=jU (x) x.k (ae x.op) (ae x.nm) (ae x.tx) x.v A n c HR.out rfl rfl rfl rfl rfl rfl HB3.out HG3.out HP3.out hgl HRD.out;simp only[World.setCells,ak,Nat.reduceAdd]at hset hfin;exact bodyPost_ret (v:= .agg #[.int .i64 x.k, .string (ae x.op), .string (ae x.nm), .string (ae x.tx), .int .i64 x.v, .slice A n c]) (by simp[results,results156,go_sem,hset]) rfl hfin
theorem ro (f:Nat) (l:List bB) (en:Int) (w:World) (g:Nat) (h:PA w g l en) (hP:ox f) (hf:4*l.length+1<=f+1) (hk3: ¬(bV l).k=3) (hk4: ¬(bV l).k=4) (hk1: ¬(bV l).k=1) (hmi:b6 ln l=true):Calls prog 156 #[.pointer (some ⟨g,0,none⟩)] w (nF g en w (cE (f+1) l)):=by
 obtain⟨⟨k,tx,v,fr⟩,r,rfl⟩: ∃t r,l=t::r:=by
  cases l with
  |nil=>exact absurd rfl (k9 hmi)
  |cons t r=>exact⟨t,r,rfl⟩
 simp only[bV]at hk3 hk4 hk1;have hb3:(k==3)=false:=beq_eq_false_iff_ne.2 hk3;have hb4:(k==4)=false:=beq_eq_false_iff_ne.2 hk4;have hb1:(k==1)=false:=beq_eq_false_iff_ne.2 hk1;have HRP:=G (show cE (f+1) (⟨k,tx,v,fr⟩::r)=(cE f r).then fun x q=> .ok (.mk 6 tx [] [] 0 [x],q)from mN hk3 hk4 hk1 (by rw[hmi];rfl));have hf':4*r.length+1<=f:=by simp only[ac]at hf;omega
 have HX0:=G (O w (.cells #[.int .i64 0, .string ⟨#[]⟩, .string ⟨#[]⟩, .string ⟨#[]⟩, .int .i64 0, .slice none 0 0] 131));have HB0:=G (ai w 131 #[.int .i64 0, .string ⟨#[]⟩, .string ⟨#[]⟩, .string ⟨#[]⟩, .int .i64 0, .slice none 0 0]);have HN:=G (eb g _ en _ (h.ext HX0.out));have HP:=G h;have hgl:=h.lt;clear h;simp only[bV]at HN;go_enter func156,ntmps156;go_wp2_with (first|(go_at_call 116;refine HN.out.mono ?_;rintro e w1 ⟨rfl,hE⟩;have hpt:w.heap.size<w1.heap.size:=(by have:=HB0.out.lt;have:=bJ hE;omega);have HX1:=G (hE.alloc' (.cells #[.int .i64 k, .string (ae tx), .int .i64 v, .int .i64 fr] 116));have HB1:=G (HB0.out.ext HX1.out);have HT1:=G (ai w1 116 #[.int .i64 k, .string (ae tx), .int .i64 v, .int .i64 fr]);have hrc:=HB1.out.cell;have hrf:=HB1.out.frozen;have hrg:w.heap.size≠g:=(by omega);have hgr:g≠w.heap.size:=(by omega);clear hE HN;have HP1:=G ((HP.out.ext HX0.out).ext HX1.out))|(go_at_call 115;refine(gi g _ en ln _ HP1.out).mono ?_;rw[hmi];rintro e w2 ⟨rfl,hE⟩;have HX2:=G (HX1.out.trans hE);have HP2:=G (HP1.out.ext hE);have HB2:=G (HB1.out.ext hE);have HT2:=G (HT1.out.ext hE);clear hrc hrf;have hrc:=HB2.out.cell;have hrf:=HB2.out.frozen;clear HP1;obtain⟨A,c,hb,ht,hn⟩:=HP2.out;obtain⟨b,off,rfl,hlt,_⟩:=ht.at_ 0 (by simp);have hbc:=hb.cell;have hbf:=hb.frozen;clear hE));all_goals
  first|have hq:=PA.next_a hb ht (hn b off rfl (by simp)) hlt (by assumption)|have hq:=PA.next_b hb ht (hn b off rfl (by simp)) hlt (by assumption)
  obtain⟨h1,h2⟩:=hq;have hptg:w1.heap.size≠g:=by omega
  have HG5:=G (ah ((HX0.out.trans HX2.out).grownBy (some g)) h2);have HB5:=G (HB2.out.grown h2 (fun e=>hrg (M e)));have HT5:=G (HT2.out.grown h2 (fun e=>hptg (M e)));have HP5:=G h1;clear hb ht hn hlt hbc hbf hrc hrf h2 h1;generalize World.setCell _ _ _=w5 at*
  cases hpp:cE f r with
  |error p=>
   obtain⟨q,n⟩:=p;rw[hpp]at HRP;refine bC 6 12 [(3,fun v=>v= .agg #[.int .i64 0, .string ⟨#[]⟩, .string ⟨#[]⟩, .string ⟨#[]⟩, .int .i64 0, .slice none 0 0],fun _ _=>False),(4,fun v=> ∃gb,v= .slice (some ⟨gb,0,none⟩) 1 1,fun _ _=>True)] 3 (some g) mixed (by kernel_rfl) ⟨fun _ _ _ h _=>h,fun _ _ _ h _=>h,trivial⟩ ⟨.inl rfl, .inr fun _ _ _ h _=>h,trivial⟩ ?_;repeat (refine sx ?_ (fun w1 hU=> ?_) ?_;rotate_left;(focus have f1:=(HT5.out.grown (aD hU) (fun e=>hptg (M e))).cell;clear hU;go_simp<;>with_reducible rfl);simp only[bf,be,bc,a_,a8])
   refine ce _ _ (by rfl) rfl ⟨_,rfl⟩ rfl (fun w6 hT hp K hK=> ?_) ?_
   ·clear hp;have hc:=hP r en w6 g (HP5.out.ext hT.un) hf';have HT6:=G hT.un;clear hT;go_simp;refine hc.mono ?_;intro e w7 hh;rw[hpp]at hh;obtain⟨hG,rfl⟩:=hh;unfold bi;intro a' hd;exact⟨hd,fY HRP.out (ah HG5.out (ah (HT6.out.grownBy _) hG))⟩
   rintro _ rfl;simp only[bf,be,bc,a_,a8];refine bw _ _ (by rfl) rfl ⟨_,0,rfl⟩ (by simp) (fun w6 hU hp K hK=> ?_) ?_
   ·clear hp;go_simp;exact hK _ _ (O w6 _) ⟨_,rfl⟩ trivial
   rintro _ ⟨gb,rfl⟩;simp only[bf,be,bc,a_,a8];repeat (refine sx ?_ (fun w1 hU=> ?_) ?_;rotate_left;(focus go_simp<;>with_reducible rfl);simp only[bf,be,bc,a_,a8])
   intro w6 hw6 hp;exact(hp _ (.tail _ (.head _))).elim
  |ok p=>
   obtain⟨x,q⟩:=p;have HR:=G (show cE (f+1) (⟨k,tx,v,fr⟩::r)= .ok (.mk 6 tx [] [] 0 [x],q)from by rw[HRP.out,hpp];rfl);have hg5:g<w5.heap.size:=HP5.out.lt;have hpr5:w.heap.size+1<=w5.heap.size:=HB5.out.lt
   refine bC 6 12 [(3,fun v=> ∃A n c,v= .agg #[.int .i64 x.k, .string (ae x.op), .string (ae x.nm), .string (ae x.tx), .int .i64 x.v, .slice A n c],fun v wx=> ∀A n c,v= .agg #[.int .i64 x.k, .string (ae x.op), .string (ae x.nm), .string (ae x.tx), .int .i64 x.v, .slice A n c]->bZ wx (fun b=>w5.heap.size<=b) (.slice A n c) x.args/\PA wx g q en),
     (4,fun v=> ∃gb,v= .slice (some ⟨gb,0,none⟩) 1 1,fun v wx=>bZ wx (fun b=>w5.heap.size<=b) v [x])] 3 (some g) mixed (by kernel_rfl)
    ⟨fun _ _ _ h hx A n c e=>⟨(h A n c e).1.keep (.of_ext hx) (fun _ hb _=>hb),(h A n c e).2.ext hx⟩,fun _ _ _ h hx=>h.keep (.of_ext hx) (fun _ hb _=>hb),trivial⟩
    ⟨.inl rfl, .inr fun _ _ _ h hx=>h.keep (.of_grown hx fun b hb e=>by injection e with e;omega) (fun _ hb _=>hb),trivial⟩ ?_
   repeat (refine sx ?_ (fun w1 hU=> ?_) ?_;rotate_left;(focus have f1:=(HT5.out.grown (aD hU) (fun e=>hptg (M e))).cell;clear hU;go_simp<;>with_reducible rfl);simp only[bf,be,bc,a_,a8])
   refine ce _ _ (by rfl) rfl ⟨_,none,0,0,rfl⟩ rfl (fun w6 hT hp K hK=> ?_) ?_
   ·clear hp;have hc:=hP r en w6 g (HP5.out.ext hT.un) hf';have HT6:=G hT.un;clear hT;go_simp;refine hc.mono ?_;intro e w7 hh;rw[hpp]at hh;obtain⟨hG,A,n,c,rfl,hR,hPA⟩:=hh;exact hK _ _ hG ⟨_,_,_,rfl⟩ (fun A' n' c' e=>by injection e with e;simp only[cI,cw,b_,and_true,true_and]at e;obtain⟨rfl,rfl,rfl⟩:=e;exact⟨hR.mono (fun b hb _=>aS (bJ HT6.out) hb),hPA⟩)
   rintro _ ⟨A,n,c,rfl⟩;simp only[bf,be,bc,a_,a8];refine bw _ _ (by rfl) rfl ⟨_,0,rfl⟩ (by simp) (fun w6 hU hp K hK=> ?_) ?_
   ·have h3:=(hp _ (.head _) (by kernel_rfl)) A n c rfl;have hz6:=(aD hU).size;clear hp hU;go_simp;exact hK _ _ (O w6 _) ⟨_,rfl⟩ (gq (ai w6 _ _) hz6 (h3.1.keep (.of_ext (O w6 _)) (fun _ hb _=>hb)))
   rintro _ ⟨gb,rfl⟩;simp only[bf,be,bc,a_,a8];repeat (refine sx ?_ (fun w1 hU=> ?_) ?_;rotate_left;(focus go_simp<;>with_reducible rfl);simp only[bf,be,bc,a_,a8])
   intro w8 hw8 hp;have h4:=hp _ (.head _);have h3:=(hp _ (.tail _ (.head _)) A n c rfl).2;clear hp;simp only[ab,ap];have hG8:=ah HG5.out (aD hw8);have hB8:=HB5.out.grown (aD hw8) (fun e=>hrg (M e));have hrc:=hB8.cell;have hrf:=hB8.frozen;clear hw8;go_wp2_with fail;obtain⟨hset,hfin⟩:=jU (.mk 6 tx [] [] 0 [x]) 6 (ae tx) ⟨#[]⟩ ⟨#[]⟩ 0 (some ⟨gb,0,none⟩) 1 1 HR.out rfl rfl rfl rfl rfl rfl hB8 hG8 h3 hgl (h4.mono fun b hb _=>aS hpr5 hb);simp only[World.setCells,ak,Nat.reduceAdd]at hset hfin;exact bodyPost_ret (v:= .agg #[.int .i64 6, .string (ae tx), .string ⟨#[]⟩, .string ⟨#[]⟩, .int .i64 0, .slice (some ⟨gb,0,none⟩) 1 1]) (by simp[results,results156,go_sem,hset]) rfl hfin
theorem ut (f:Nat) (l:List bB) (en:Int) (w:World) (g:Nat) (h:PA w g l en) (hP:ox f) (hf:4*l.length+1<=f+1) (hk3: ¬(bV l).k=3) (hk4: ¬(bV l).k=4) (hk1: ¬(bV l).k=1) (hmi:b6 ln l=false) (hno:b6 l8 l=true):Calls prog 156 #[.pointer (some ⟨g,0,none⟩)] w (nF g en w (cE (f+1) l)):=by
 obtain⟨⟨k,tx,v,fr⟩,r,rfl⟩: ∃t r,l=t::r:=by
  cases l with
  |nil=>exact absurd rfl (k9 hno)
  |cons t r=>exact⟨t,r,rfl⟩
 simp only[bV]at hk3 hk4 hk1;have hb3:(k==3)=false:=beq_eq_false_iff_ne.2 hk3;have hb4:(k==4)=false:=beq_eq_false_iff_ne.2 hk4;have hb1:(k==1)=false:=beq_eq_false_iff_ne.2 hk1;have HRP:=G (show cE (f+1) (⟨k,tx,v,fr⟩::r)=(cE f r).then fun x q=> .ok (.mk 6 tx [] [] 0 [x],q)from mN hk3 hk4 hk1 (by rw[hmi,hno];rfl));have hf':4*r.length+1<=f:=by simp only[ac]at hf;omega
 have HX0:=G (O w (.cells #[.int .i64 0, .string ⟨#[]⟩, .string ⟨#[]⟩, .string ⟨#[]⟩, .int .i64 0, .slice none 0 0] 131));have HB0:=G (ai w 131 #[.int .i64 0, .string ⟨#[]⟩, .string ⟨#[]⟩, .string ⟨#[]⟩, .int .i64 0, .slice none 0 0]);have HN:=G (eb g _ en _ (h.ext HX0.out));have HP:=G h;have hgl:=h.lt;clear h;simp only[bV]at HN;go_enter func156,ntmps156;go_wp2_with (first|(go_at_call 116;refine HN.out.mono ?_;rintro e w1 ⟨rfl,hE⟩;have hpt:w.heap.size<w1.heap.size:=(by have:=HB0.out.lt;have:=bJ hE;omega);have HX1:=G (hE.alloc' (.cells #[.int .i64 k, .string (ae tx), .int .i64 v, .int .i64 fr] 116));have HB1:=G (HB0.out.ext HX1.out);have HT1:=G (ai w1 116 #[.int .i64 k, .string (ae tx), .int .i64 v, .int .i64 fr]);have hrc:=HB1.out.cell;have hrf:=HB1.out.frozen;have hrg:w.heap.size≠g:=(by omega);have hgr:g≠w.heap.size:=(by omega);clear hE HN;have HP1:=G ((HP.out.ext HX0.out).ext HX1.out))|(go_at_call 115;refine(gi g _ en ln _ HP1.out).mono ?_;rw[hmi];rintro e w2 ⟨rfl,hE⟩;have HX2:=G (HX1.out.trans hE);have HP2:=G (HP1.out.ext hE);have HB2:=G (HB1.out.ext hE);have HT2:=G (HT1.out.ext hE);clear hrc hrf;have hrc:=HB2.out.cell;have hrf:=HB2.out.frozen;clear HP1)|(go_at_call 115;refine(gi g _ en l8 _ HP2.out).mono ?_;rw[hno];rintro e w3 ⟨rfl,hE⟩;have HX3:=G (HX2.out.trans hE);have HP3:=G (HP2.out.ext hE);have HB3:=G (HB2.out.ext hE);have HT3:=G (HT2.out.ext hE);clear hrc hrf;have hrc:=HB3.out.cell;have hrf:=HB3.out.frozen;clear HP2;obtain⟨A,c,hb,ht,hn⟩:=HP3.out;obtain⟨b,off,rfl,hlt,_⟩:=ht.at_ 0 (by simp);have hbc:=hb.cell;have hbf:=hb.frozen;clear hE));all_goals
  first|have hq:=PA.next_a hb ht (hn b off rfl (by simp)) hlt (by assumption)|have hq:=PA.next_b hb ht (hn b off rfl (by simp)) hlt (by assumption)
  obtain⟨h1,h2⟩:=hq;have hptg:w1.heap.size≠g:=by omega
  have HG5:=G (ah ((HX0.out.trans HX3.out).grownBy (some g)) h2);have HB5:=G (HB3.out.grown h2 (fun e=>hrg (M e)));have HT5:=G (HT3.out.grown h2 (fun e=>hptg (M e)));have HP5:=G h1;clear hb ht hn hlt hbc hbf hrc hrf h2 h1;generalize World.setCell _ _ _=w5 at*
  cases hpp:cE f r with
  |error p=>
   obtain⟨q,n⟩:=p;rw[hpp]at HRP;refine bC 6 12 [(3,fun v=>v= .agg #[.int .i64 0, .string ⟨#[]⟩, .string ⟨#[]⟩, .string ⟨#[]⟩, .int .i64 0, .slice none 0 0],fun _ _=>False),(4,fun v=> ∃gb,v= .slice (some ⟨gb,0,none⟩) 1 1,fun _ _=>True)] 3 (some g) mixed (by kernel_rfl) ⟨fun _ _ _ h _=>h,fun _ _ _ h _=>h,trivial⟩ ⟨.inl rfl, .inr fun _ _ _ h _=>h,trivial⟩ ?_;repeat (refine sx ?_ (fun w1 hU=> ?_) ?_;rotate_left;(focus have f1:=(HT5.out.grown (aD hU) (fun e=>hptg (M e))).cell;clear hU;go_simp<;>with_reducible rfl);simp only[bf,be,bc,a_,a8])
   refine ce _ _ (by rfl) rfl ⟨_,rfl⟩ rfl (fun w6 hT hp K hK=> ?_) ?_
   ·clear hp;have hc:=hP r en w6 g (HP5.out.ext hT.un) hf';have HT6:=G hT.un;clear hT;go_simp;refine hc.mono ?_;intro e w7 hh;rw[hpp]at hh;obtain⟨hG,rfl⟩:=hh;unfold bi;intro a' hd;exact⟨hd,fY HRP.out (ah HG5.out (ah (HT6.out.grownBy _) hG))⟩
   rintro _ rfl;simp only[bf,be,bc,a_,a8];refine bw _ _ (by rfl) rfl ⟨_,0,rfl⟩ (by simp) (fun w6 hU hp K hK=> ?_) ?_
   ·clear hp;go_simp;exact hK _ _ (O w6 _) ⟨_,rfl⟩ trivial
   rintro _ ⟨gb,rfl⟩;simp only[bf,be,bc,a_,a8];repeat (refine sx ?_ (fun w1 hU=> ?_) ?_;rotate_left;(focus go_simp<;>with_reducible rfl);simp only[bf,be,bc,a_,a8])
   intro w6 hw6 hp;exact(hp _ (.tail _ (.head _))).elim
  |ok p=>
   obtain⟨x,q⟩:=p;have HR:=G (show cE (f+1) (⟨k,tx,v,fr⟩::r)= .ok (.mk 6 tx [] [] 0 [x],q)from by rw[HRP.out,hpp];rfl);have hg5:g<w5.heap.size:=HP5.out.lt;have hpr5:w.heap.size+1<=w5.heap.size:=HB5.out.lt
   refine bC 6 12 [(3,fun v=> ∃A n c,v= .agg #[.int .i64 x.k, .string (ae x.op), .string (ae x.nm), .string (ae x.tx), .int .i64 x.v, .slice A n c],fun v wx=> ∀A n c,v= .agg #[.int .i64 x.k, .string (ae x.op), .string (ae x.nm), .string (ae x.tx), .int .i64 x.v, .slice A n c]->bZ wx (fun b=>w5.heap.size<=b) (.slice A n c) x.args/\PA wx g q en),
     (4,fun v=> ∃gb,v= .slice (some ⟨gb,0,none⟩) 1 1,fun v wx=>bZ wx (fun b=>w5.heap.size<=b) v [x])] 3 (some g) mixed (by kernel_rfl)
    ⟨fun _ _ _ h hx A n c e=>⟨(h A n c e).1.keep (.of_ext hx) (fun _ hb _=>hb),(h A n c e).2.ext hx⟩,fun _ _ _ h hx=>h.keep (.of_ext hx) (fun _ hb _=>hb),trivial⟩
    ⟨.inl rfl, .inr fun _ _ _ h hx=>h.keep (.of_grown hx fun b hb e=>by injection e with e;omega) (fun _ hb _=>hb),trivial⟩ ?_
   repeat (refine sx ?_ (fun w1 hU=> ?_) ?_;rotate_left;(focus have f1:=(HT5.out.grown (aD hU) (fun e=>hptg (M e))).cell;clear hU;go_simp<;>with_reducible rfl);simp only[bf,be,bc,a_,a8])
   refine ce _ _ (by rfl) rfl ⟨_,none,0,0,rfl⟩ rfl (fun w6 hT hp K hK=> ?_) ?_
   ·clear hp;have hc:=hP r en w6 g (HP5.out.ext hT.un) hf';have HT6:=G hT.un;clear hT;go_simp;refine hc.mono ?_;intro e w7 hh;rw[hpp]at hh;obtain⟨hG,A,n,c,rfl,hR,hPA⟩:=hh;exact hK _ _ hG ⟨_,_,_,rfl⟩ (fun A' n' c' e=>by injection e with e;simp only[cI,cw,b_,and_true,true_and]at e;obtain⟨rfl,rfl,rfl⟩:=e;exact⟨hR.mono (fun b hb _=>aS (bJ HT6.out) hb),hPA⟩)
   rintro _ ⟨A,n,c,rfl⟩;simp only[bf,be,bc,a_,a8];refine bw _ _ (by rfl) rfl ⟨_,0,rfl⟩ (by simp) (fun w6 hU hp K hK=> ?_) ?_
   ·have h3:=(hp _ (.head _) (by kernel_rfl)) A n c rfl;have hz6:=(aD hU).size;clear hp hU;go_simp;exact hK _ _ (O w6 _) ⟨_,rfl⟩ (gq (ai w6 _ _) hz6 (h3.1.keep (.of_ext (O w6 _)) (fun _ hb _=>hb)))
   rintro _ ⟨gb,rfl⟩;simp only[bf,be,bc,a_,a8];repeat (refine sx ?_ (fun w1 hU=> ?_) ?_;rotate_left;(focus go_simp<;>with_reducible rfl);simp only[bf,be,bc,a_,a8])
   intro w8 hw8 hp;have h4:=hp _ (.head _);have h3:=(hp _ (.tail _ (.head _)) A n c rfl).2;clear hp;simp only[ab,ap];have hG8:=ah HG5.out (aD hw8);have hB8:=HB5.out.grown (aD hw8) (fun e=>hrg (M e));have hrc:=hB8.cell;have hrf:=hB8.frozen;clear hw8;go_wp2_with fail;obtain⟨hset,hfin⟩:=jU (.mk 6 tx [] [] 0 [x]) 6 (ae tx) ⟨#[]⟩ ⟨#[]⟩ 0 (some ⟨gb,0,none⟩) 1 1 HR.out rfl rfl rfl rfl rfl rfl hB8 hG8 h3 hgl (h4.mono fun b hb _=>aS hpr5 hb);simp only[World.setCells,ak,Nat.reduceAdd]at hset hfin;exact bodyPost_ret (v:= .agg #[.int .i64 6, .string (ae tx), .string ⟨#[]⟩, .string ⟨#[]⟩, .int .i64 0, .slice (some ⟨gb,0,none⟩) 1 1]) (by simp[results,results156,go_sem,hset]) rfl hfin
def lm:=@aT.put6
def lO:=@aT.put5'
end
end Go.Proofs.YtelplgkppalmfaaGreatDoor
