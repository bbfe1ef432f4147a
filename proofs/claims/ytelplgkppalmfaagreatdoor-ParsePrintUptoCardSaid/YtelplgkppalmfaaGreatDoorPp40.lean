/-
  Parts of the proof: Ppr.
-/
import Derived.Test.YtelplgkppalmfaaGreatDoorPp32
import Derived.Test.YtelplgkppalmfaaGreatDoorPp38
import Derived.Test.YtelplgkppalmfaaGreatDoorPp39
set_option maxRecDepth 100000
set_option maxHeartbeats 8000000
set_option linter.unusedVariables false
set_option linter.unusedSimpArgs false
namespace Go.Proofs.YtelplgkppalmfaaGreatDoor
open Go.Proofs.Tryz
open Go.RowKit
abbrev RdPg (p:Pg) (wx:World) (v:Value):Prop:= ∀A n c B m d,v= .agg #[.slice A n c, .slice B m d]->RdV wx (fun _=>True) (.slice A n c) p.vs/\RdF wx (fun _=>True) (.slice B m d) p.fs
theorem RdPg.ext {p:Pg} {w w':World} {v:Value} (h:RdPg p w v) (hx:Ext w w'):RdPg p w' v:=fun A n c B m d e=>⟨(h A n c B m d e).1.keep (.of_ext hx) (fun _ hb _=>hb),(h A n c B m d e).2.keep (.of_ext hx) (fun _ hb _=>hb)⟩
theorem rdPg_mk {p:Pg} {w:World} {A B:Option Addr} {n c m d:Nat} (h1:RdV w (fun _=>True) (.slice A n c) p.vs) (h2:RdF w (fun _=>True) (.slice B m d) p.fs):RdPg p w (.agg #[.slice A n c, .slice B m d]):=fun A n c B m d e=>by
 injection e with e;simp only[Array.mk.injEq,List.cons.injEq,Value.slice.injEq,and_true]at e;obtain⟨⟨rfl,rfl,rfl⟩,rfl,rfl,rfl⟩:=e;exact⟨h1,h2⟩
abbrev IsPg (v:Value):Prop:= ∃A n c B m d,v= .agg #[.slice A n c, .slice B m d]
theorem ppr_law (p:Pg) (hp:pgW p<=6000000) (P:Nat->Prop) (w:World) (A B:Option Addr) (n c m d:Nat) (hV:RdV w P (.slice A n c) p.vs) (hF:RdF w P (.slice B m d) p.fs)
  (hz:EZ w) (ht:TabW w w.heap.size):Calls prog 4 #[.agg #[.slice A n c, .slice B m d]] w fun e w'=>e= .returned (.bool true)/\Ext w w':=by
 have HE0:=hide (Ext.alloc w (.cells #[.slice A n c, .slice B m d] 33));have HA0:=hide (Blk.new w 33 #[.slice A n c, .slice B m d]);have HAW:=hide (awake_any _ (hz.ext HE0.out) (tabw_ext ht HE0.out));have HFW:=hide (fun(W:World) (h:Ext w W)=>few_w hp (hV.keep (.of_ext h) (Q:=P) (fun _ hb _=>hb)) (hF.keep (.of_ext h) (Q:=P) (fun _ hb _=>hb)));have HOW:=hide (fun(W:World) (h:Ext w W)=>own_tt hp (hV.keep (.of_ext h) (Q:=P) (fun _ hb _=>hb)) (hF.keep (.of_ext h) (Q:=P) (fun _ hb _=>hb)));have HPR:=hide (fun(W:World) (h:Ext w W) (A B:Option Addr) (n c m d:Nat) (h1:RdV W (fun _=>True) (.slice A n c) p.vs) (h2:RdF W (fun _=>True) (.slice B m d) p.fs)=>print_any p hp _ W A B n c m d h1 h2 (tabw_ext ht h));have HVD:=hide (fun(W:World) (h:Ext w W) (A B:Option Addr) (n c m d:Nat) (h1:RdV W (fun _=>True) (.slice A n c) p.vs) (h2:RdF W (fun _=>True) (.slice B m d) p.fs)=>valid_w p hp _ W A B n c m d h1 h2 (tabw_ext ht h));have HRP:=hide (fun(W:World) (h:Ext w W)=>rprint_w p hp P W A B n c m d (hV.keep (.of_ext h) (Q:=P) (fun _ hb _=>hb)) (hF.keep (.of_ext h) (Q:=P) (fun _ hb _=>hb)));have HRV:=hide (fun(W:World) (h:Ext w W)=>rvalid_w p hp P W A B n c m d (hV.keep (.of_ext h) (Q:=P) (fun _ hb _=>hb)) (hF.keep (.of_ext h) (Q:=P) (fun _ hb _=>hb)));have HPA:=hide (fun(W:World) (h:Ext w W)=>parse_any (prtL p).1 W (hz.ext h) (tabw_ext ht h));have HTH:=hide (fun(W:World) (A B:Option Addr) (n c m d:Nat) (h1:RdV W (fun _=>True) (.slice A n c) p.vs) (h2:RdF W (fun _=>True) (.slice B m d) p.fs)=>theirs_w (p:=p) hp h1 h2)
 have HEQ:=hide (show ∀(W:World),Ext w W-> ∀(A' B':Option Addr) (n' c' m' d':Nat),RdV W (fun _=>True) (.slice A' n' c') p.vs->RdF W (fun _=>True) (.slice B' m' d') p.fs->Calls prog 12 #[.agg #[.slice A' n' c', .slice B' m' d'], .agg #[.slice A n c, .slice B m d]] W fun e w'=>e= .returned (.bool true)/\Ext W w' from
  fun W h A' B' n' c' m' d' h1 h2=>by
   have:=requal_any p p _ W A' B' A B n' c' m' d' n c m d h1 h2 (hV.keep (.of_ext h) (fun _ _ _=>trivial)) (hF.keep (.of_ext h) (fun _ _ _=>trivial))
   rwa [eqPg_self]at this)
 have HPL:=hide (fun(h:okPg p=true)=>par_src h);clear hV hF hz ht hp;go_enter func4,ntmps4;go_wp2_with (go_at_call 9;refine HAW.out.mono ?_;rintro e w1 ⟨rfl,hE⟩;have HX:=hide (HE0.out.trans hE);have HA:=hide (HA0.out.ext hE);have f1:=HA.out.cell;clear hE HAW HE0 HA0);refine(HFW.out _ HX.out).mono ?_;rintro e w2 ⟨⟨q,rfl⟩,hE⟩;have HX:=hide (HX.out.trans hE);have HA:=hide (HA.out.ext hE);clear hE f1 HFW;have f1:=HA.out.cell
 cases q with
 |false=>
  go_wp2_with fail;go_ret;exact⟨rfl,HX.out⟩
 |true=>
  go_wp2_with (first
   |(go_at_call 17;refine(HOW.out _ HX.out).mono ?_;rintro e w3 ⟨hE,A1,n1,c1,B1,m1,d1,rfl,h1,h2⟩;have HX3:=hide (HX.out.trans hE);have HA3:=hide (HA.out.ext hE);have hpr:=HPR.out _ HX3.out _ _ _ _ _ _ h1 h2;have HPRR:=hide hpr;clear hE h1 h2 f1 HX HA HPR hpr;have f1:=HA3.out.cell)
   |(go_at_call 16;refine HPRR.out.mono ?_;rintro e w4 ⟨rfl,hE⟩;have HX4:=hide (HX3.out.trans hE);have HA4:=hide (HA3.out.ext hE);clear hE f1 HX3 HA3 HPRR;have f1:=HA4.out.cell)
   |(go_at_call 18;refine(HRP.out _ HX4.out).mono ?_;rintro e w5 ⟨rfl,hE⟩;have HX5:=hide (HX4.out.trans hE);have HA5:=hide (HA4.out.ext hE);clear hE f1 HX4 HA4 HRP))
  obtain⟨⟨S,E⟩,hS⟩: ∃r,prtL p=r:=⟨_,rfl⟩
  rw[hS]at HPA⊢;simp only at HPA⊢
  have HOK:=hide (show okPg p=true/\E=0/\parL S=(p,0,0)\/E=1 from by
   unfold prtL at hS
   cases hk:okPg p with
   |false=>rw[hk]at hS;injection hS with _ h2;exact .inr h2.symm
   |true=>
    rw[hk]at hS;injection hS with h1 h2
    exact .inl ⟨rfl,h2.symm,by rw[<-h1];exact HPL.out hk⟩)
  clear hS HPL;generalize okPg p=ok at*;refine wp_region_ext 15 12 [(10,IsPg,fun v wx=>RdPg p wx v),(11,fun v=>v= .bool ok,fun _ _=>True),(13,fun v=>v= .bool ok,fun _ _=>True)] mixed (by kernel_rfl)
   ⟨fun _ _ _ h hx=>h.ext hx,fun _ _ _ _ _=>trivial,fun _ _ _ _ _=>trivial,trivial⟩ ?_
  repeat (first|(refine seq_skip (by rfl) ?_;simp only[pq0,pq1,pq2,pq3,pq4])|(refine sx ?_ (fun w1 hU=> ?_) ?_;rotate_left;(focus have f1:=(HA5.out.ext hU.un).cell;clear hU;go_simp<;>with_reducible rfl);simp only[pq0,pq1,pq2,pq3,pq4]))
  refine seq_opaque _ _ (by rfl) rfl ⟨_,none,0,0,none,0,0,rfl⟩ (by simp) (fun w6 hU hp K hK=> ?_) ?_
  ·have hc:=HOW.out w6 (HX5.out.trans hU.un);clear hp hU;go_simp;refine hc.mono ?_;rintro e w7 ⟨hE,A',n',c',B',m',d',rfl,h1,h2⟩;exact hK _ _ hE ⟨_,_,_,_,_,_,rfl⟩ (rdPg_mk h1 h2)
  rintro _ ⟨A9,n9,c9,B9,m9,d9,rfl⟩;simp only[pq0,pq1,pq2,pq3,pq4];repeat (first|(refine seq_skip (by rfl) ?_;simp only[pq0,pq1,pq2,pq3,pq4])|(refine sx ?_ (fun w1 hU=> ?_) ?_;rotate_left;(focus have f1:=(HA5.out.ext hU.un).cell;clear hU;go_simp<;>with_reducible rfl);simp only[pq0,pq1,pq2,pq3,pq4]))
  refine so (fun w6 hU hp K hK=> ?_) ?_
  ·have h1:=hp _ (.head _) (by kernel_rfl) _ _ _ _ _ _ rfl;have hc:=HVD.out w6 (HX5.out.trans hU.un) _ _ _ _ _ _ h1.1 h1.2;clear hp hU h1;go_simp;refine hc.mono ?_;rintro e w7 ⟨rfl,hE⟩;exact hK _ _ hE rfl trivial
  rintro _ rfl;simp only[pq0,pq1,pq2,pq3,pq4];repeat (first|(refine seq_skip (by rfl) ?_;simp only[pq0,pq1,pq2,pq3,pq4])|(refine sx ?_ (fun w1 hU=> ?_) ?_;rotate_left;(focus have f1:=(HA5.out.ext hU.un).cell;clear hU;go_simp<;>with_reducible rfl);simp only[pq0,pq1,pq2,pq3,pq4]))
  refine so (fun w6 hU hp K hK=> ?_) ?_
  ·have hc:=HRV.out w6 (HX5.out.trans hU.un);clear hp hU;go_simp;refine hc.mono ?_;rintro e w7 ⟨rfl,hE⟩;exact hK _ _ hE rfl trivial
  rintro _ rfl;simp only[pq0,pq1,pq2,pq3,pq4];repeat (first|(refine seq_skip (by rfl) ?_;simp only[pq0,pq1,pq2,pq3,pq4])|(refine sx ?_ (fun w1 hU=> ?_) ?_;rotate_left;(focus have f1:=(HA5.out.ext hU.un).cell;clear hU;go_simp<;>with_reducible rfl);simp only[pq0,pq1,pq2,pq3,pq4]))
  intro w8 hw8 hp;clear hp;simp only[List.drop_succ_cons,List.drop_zero];have HX8:=hide (HX5.out.trans hw8.un);have HA8:=hide (HA5.out.ext hw8.un);clear hw8 HX5 HA5;have hPA:=HPA.out _ HX8.out;obtain⟨⟨pb,at_,en⟩,hr⟩: ∃r,parL S=r:=⟨_,rfl⟩
  rw[hr]at hPA HOK;have HPA8:=hide hPA;clear hPA HPA hr;go_wp2_with (go_at_call 10;refine HPA8.out.mono ?_;rintro e w9 ⟨hE,A7,n7,c7,B7,m7,d7,rfl,hV,hF⟩;have HE9:=hide (Ext.alloc w9 (.cells #[.slice A7 n7 c7, .slice B7 m7 d7] 26));have HX9:=hide (HX8.out.trans (hE.trans HE9.out));have HA9:=hide (HA8.out.ext (hE.trans HE9.out));have HB9:=hide (Blk.new w9 26 #[.slice A7 n7 c7, .slice B7 m7 d7]);have HV9:=hide (hV.keep (.of_ext HE9.out) (Q:=fun _=>True) (fun _ _ _=>trivial));have HF9:=hide (hF.keep (.of_ext HE9.out) (Q:=fun _=>True) (fun _ _ _=>trivial));clear hE hV hF HPA8 HX8 HA8 HE9);rcases HOK.out with⟨rfl,rfl,hq⟩|rfl
  ·injection hq with h1 h2;injection h2 with h2 h3;subst h1 h2 h3;refine wp_region_ext 12 12 [(7,IsPg,fun v wx=>RdPg pb wx v),(9,fun v=>v= .bool true,fun _ _=>True)] mixed (by kernel_rfl)
    ⟨fun _ _ _ h hx=>h.ext hx,fun _ _ _ _ _=>trivial,trivial⟩ ?_
   repeat (first|(refine seq_skip (by rfl) ?_;simp only[pq0,pq1,pq2,pq3,pq4])|(refine sx ?_ (fun w1 hU=> ?_) ?_;rotate_left;(focus have f1:=(HA9.out.ext hU.un).cell;have f2:=(HB9.out.ext hU.un).cell;clear hU;go_simp<;>with_reducible rfl);simp only[pq0,pq1,pq2,pq3,pq4]))
   refine seq_opaque _ _ (by rfl) rfl ⟨_,none,0,0,none,0,0,rfl⟩ (by simp) (fun w6 hU hp K hK=> ?_) ?_
   ·have hc:=HTH.out w6 _ _ _ _ _ _ (HV9.out.keep (.of_ext hU.un) (fun _ hb _=>hb)) (HF9.out.keep (.of_ext hU.un) (fun _ hb _=>hb));clear hp hU;go_simp;refine hc.mono ?_;rintro e w7 ⟨hE,A',n',c',B',m',d',rfl,h1,h2⟩;exact hK _ _ hE ⟨_,_,_,_,_,_,rfl⟩ (rdPg_mk h1 h2)
   rintro _ ⟨A9,n9,c9,B9,m9,d9,rfl⟩;simp only[pq0,pq1,pq2,pq3,pq4];repeat (first|(refine seq_skip (by rfl) ?_;simp only[pq0,pq1,pq2,pq3,pq4])|(refine sx ?_ (fun w1 hU=> ?_) ?_;rotate_left;(focus have f1:=(HA9.out.ext hU.un).cell;have f2:=(HB9.out.ext hU.un).cell;clear hU;go_simp<;>with_reducible rfl);simp only[pq0,pq1,pq2,pq3,pq4]))
   refine so (fun w6 hU hp K hK=> ?_) ?_
   ·have h1:=hp _ (.head _) (by kernel_rfl) _ _ _ _ _ _ rfl;have hc:=HEQ.out w6 (HX9.out.trans hU.un) _ _ _ _ _ _ h1.1 h1.2;clear hp hU h1;go_simp;refine hc.mono ?_;rintro e w7 ⟨rfl,hE⟩;exact hK _ _ hE rfl trivial
   rintro _ rfl;simp only[pq0,pq1,pq2,pq3,pq4];repeat (first|(refine seq_skip (by rfl) ?_;simp only[pq0,pq1,pq2,pq3,pq4])|(refine sx ?_ (fun w1 hU=> ?_) ?_;rotate_left;(focus have f1:=(HA9.out.ext hU.un).cell;have f2:=(HB9.out.ext hU.un).cell;clear hU;go_simp<;>with_reducible rfl);simp only[pq0,pq1,pq2,pq3,pq4]))
   intro w8 hw8 hp;clear hp;simp only[List.drop_succ_cons,List.drop_zero];have HXZ:=hide (HX9.out.trans hw8.un);clear hw8;go_wp2_with fail;go_ret;exact⟨rfl,HXZ.out⟩
  ·refine wp_region_ext 12 12 [] mixed (by kernel_rfl) trivial ?_;repeat (first|(refine seq_skip (by rfl) ?_;simp only[pq0,pq1,pq2,pq3,pq4])|(refine sx ?_ (fun w1 hU=> ?_) ?_;rotate_left;(focus have f1:=(HA9.out.ext hU.un).cell;have f2:=(HB9.out.ext hU.un).cell;clear hU;go_simp<;>with_reducible rfl);simp only[pq0,pq1,pq2,pq3,pq4]))
   intro w8 hw8 hp;clear hp;simp only[List.drop_succ_cons,List.drop_zero];have HXZ:=hide (HX9.out.trans hw8.un);clear hw8;go_wp2_with fail;go_ret;exact⟨rfl,HXZ.out⟩
end Go.Proofs.YtelplgkppalmfaaGreatDoor
