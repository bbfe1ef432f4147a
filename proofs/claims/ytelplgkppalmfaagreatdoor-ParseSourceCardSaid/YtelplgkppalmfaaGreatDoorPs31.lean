/-
  Parts of the proof: OpenP TheA TheB TheW.
-/
import Derived.Test.YtelplgkppalmfaaGreatDoorPs00
import Derived.LaidLaws
import Derived.LaidHandle
import Derived.Handed
import Derived.Lay
import Derived.LaidOnce
import Derived.MakeChecks
import Derived.SevenTiedAt
import Derived.Lib.LaidU8
import Derived.Test.YtelplgkppalmfaaGreatDoorPs04
import Derived.Test.YtelplgkppalmfaaGreatDoorTie
import Derived.Test.YtelplgkppalmfaaGreatDoorCards
import Derived.Test.YtelplgkppalmfaaGreatDoorPs30
import Derived.Test.YtelplgkppalmfaaGreatDoorPs17
import Derived.Test.YtelplgkppalmfaaGreatDoorPs27
import Derived.Test.YtelplgkppalmfaaGreatDoorPs29
import Derived.Test.YtelplgkppalmfaaGreatDoorPs26
set_option maxRecDepth 100000
set_option maxHeartbeats 8000000
set_option linter.unusedVariables false
set_option linter.unusedSimpArgs false
namespace Go.Proofs.YtelplgkppalmfaaGreatDoor
open Go.Proofs.Tryz
section
open Go.Joins Go.ChangeShapes Go.WideShapes Go.ChangeAt Go.RowKit Go.Deep
theorem oH {P:Program} {W:World} {name:String} {k:IntKind} {zs:List Int} {g:Nat} {t e:TypeId} {n:Nat} (hg:P.globalNamed name=some g) (hty:(P.globals[g]?).map (·.type)=some t) (ht:P.underlying t=some (.array n e)) (he:P.underlying e=some (.int k)) (hce:P.cellsOf e=1) (hct:P.cellsOf t=n)
  (h:Lib.VarReads P W name (Lib.tabData k zs)):Lib.TabIs P W name k zs:=by
 obtain⟨g',t',cs,fuel,p,hg',ht',hvar,hd⟩:=h;obtain rfl:=M (hg.symm.trans hg');obtain rfl:=M (hty.symm.trans ht');unfold Lib.TabIs;rw[hvar,<-Lib.cells_of_tab ht he hce hct hd]
theorem nC {P:Program} {w:World} {base fuel:Nat} {sp:Nat->Bool} {hd:Bool} {t:TypeId} {ms:Array (String×TypeId)} (ht:P.underlying t=some (.interface ms)) {cs:List Value} {x:DataW Unit×List MemPlace}
  (h:DataW.trod (fun _=>()) P w base sp hd fuel t cs=some x): ∃ev,cs=[ev]/\(ev= .nilIface\/ ∃te pe,ev= .iface te pe):=by
 cases fuel with
 |zero=>simp[DataW.trod]at h
 |succ n=>
  unfold DataW.trod at h;rw[ht]at h;split at h<;>first|(simp_all;done)|skip
  all_goals first|exact⟨_,rfl, .inl rfl⟩|exact⟨_,rfl, .inr ⟨_,_,rfl⟩⟩|skip
theorem lf {P:Program} {W:World} {name:String} {d:DataW Unit} {g:Nat} {t:TypeId} {ms:Array (String×TypeId)} (hg:P.globalNamed name=some g) (hty:(P.globals[g]?).map (·.type)=some t) (ht:P.underlying t=some (.interface ms)) (h:Lib.VarReads P W name d):
  ∃ev,W.cell? ⟨g,0,none⟩=some ev/\(ev= .nilIface\/ ∃te pe,ev= .iface te pe):=by
 obtain⟨g',t',cs,fuel,p,hg',ht',hvar,hd⟩:=h;obtain rfl:=M (hg.symm.trans hg');obtain rfl:=M (hty.symm.trans ht');obtain⟨ev,e1,e2⟩:=nC ht hd;refine⟨ev,?_,e2⟩;rw[World.var?_cell hg hvar 0];have:=congrArg (fun l=>l[0]?) e1;simpa using this
theorem oG {W:World} {l:List (String×DataW Unit)} (h:laidMetH prog l W) (hp:(l.all fun x=>x.2.handleName?.isNone)=true) (h1:("strconv.ErrSyntax",Rows.laid_strconv_ErrSyntax)∈l) (h2:("strconv.ErrRange",Rows.laid_strconv_ErrRange)∈l)
  (h3:("internal/strconv.uint64pow10",Rows.laid_internal_strconv_uint64pow10)∈l):EZ W/\dQ W W.heap.size:=by
 rw[MakeChecks.laidMetH_plain _ _ _ hp]at h;have r1:=Lib.laidMet.reads h h1;have r2:=Lib.laidMet.reads h h2;have r3:=Lib.laidMet.reads h h3;have e3:(Rows.laid_internal_strconv_uint64pow10:DataW Unit)=Lib.tabData .u64 Lib.pow10Tab:=by kernel_rfl
 rw[e3]at r3;have ht:=oH (g:=1) (t:=215) (e:=194) (by kernel_rfl) (by kernel_rfl) underlying215 underlying194 (by kernel_rfl) (by kernel_rfl) r3;refine⟨⟨lf (g:=2) (t:=143) (by kernel_rfl) (by kernel_rfl) underlying143 r1,lf (g:=3) (t:=143) (by kernel_rfl) (by kernel_rfl) underlying143 r2⟩,ht,?_⟩;unfold Lib.TabIs World.var? at ht;rw[show prog.globalNamed "internal/strconv.uint64pow10" =some 1 by kernel_rfl]at ht;simp only[gf]at ht;by_cases hlt:1<W.heap.size
 ·exact hlt
 ·rw[eH (by omega)]at ht
  cases ht
section
variable {H:Type} {enc:TypeId×Value->H} {P:Program} {W:World}
instance:Inhabited Ex:=⟨.mk 0 [] [] [] 0 []⟩
instance:Inhabited SV:=⟨⟨.mk 0 [] [] [] [], .nilIface, .nilIface, .nilIface⟩⟩
instance:Inhabited FV:=⟨⟨⟨[],[],[]⟩, .nilIface, .nilIface⟩⟩
instance:Inhabited Vr:=⟨⟨[],0⟩⟩
end
end
section
open Go.RowKit
theorem Ag:jw prog 47 49 6 88 (.agg #[.int .i64 0, .string ⟨#[]⟩, .string ⟨#[]⟩, .string ⟨#[]⟩, .int .i64 0, .slice none 0 0]):=⟨underlying47,by kernel_rfl,by rfl,by decide⟩
theorem Ae:jw prog 64 66 5 96 (.agg #[.int .i64 0, .string ⟨#[]⟩, .slice none 0 0, .slice none 0 0, .slice none 0 0]):=⟨underlying64,by kernel_rfl,by rfl,by decide⟩
def tV (xs:List Ex):Prop:= ∀(P:Nat->Prop) (w:World) (u:Value),bZ w P u xs->Calls prog 73 #[u] w fun e w'=>al w w'/\ ∃A c,e= .returned (.slice A xs.length c)/\bZ w' (fun b=>w.heap.size<=b) (.slice A xs.length c) xs
def tU (xs:List St):Prop:= ∀(P:Nat->Prop) (w:World) (u:Value),cP w P u xs->Calls prog 36 #[u] w fun e w'=>al w w'/\ ∃A c,e= .returned (.slice A xs.length c)/\cP w' (fun b=>w.heap.size<=b) (.slice A xs.length c) xs
theorem sw (xs:List Ex) (hl:xs.length<=1073741824) (hIH: ∀x,x∈xs->tV x.args):tV xs:=by
 intro P w u hu;obtain⟨A,c,rfl,_⟩:=hu.form;obtain⟨n,hn⟩: ∃n,xs.length=n:=⟨_,rfl⟩
 rw[hn]at hu⊢;rw[hn]at hl;have HN:=G hn;have HR:=G hu;have HI:=G hIH;clear hu hIH hn;go_enter func73,ntmps73;go_wp2_with fail
 go_loopw [3,4] (fun vo vi wr=> ∃(j:Nat) (acc:List (Ex×Value)) (C:Option Addr) (cap:Nat),vi= .int .i64 (j:Int)/\vo= .slice C j cap/\j<=n/\Hid (acc.map (·.1)=xs.take j)/\Hid (acc.length=j)/\Hid (eV wr w.heap.size 49 (.slice C j cap) acc)/\Hid (al w wr)) (fun vo vi _=>n-(intOf vi).toNat)
 case atStart=>exact⟨0,[],none,0,rfl,rfl,aB _,G rfl,G rfl,G (kg _ _ _),G (aG w)⟩
 case round=>
  obtain⟨j,acc,C,cap,rfl,rfl,hj,HM,HL,HO,HX⟩:=hrel;by_cases hlt:j<n
  ·have hlt':(j:Int)<n:=by omega
   have hjl:j<xs.length:=by have:=HN.out;omega
   obtain⟨b,o,a,rfl,hb,hP,h0,h1,h2,h3,h4,h5,hRa⟩:=HR.out.at_ j hjl;have hbl:b<wr.heap.size:=an hb HX.out.size;have HT:=G (show xs.take (j+1)=xs.take j++[xs[j]]from aF hjl);have hIx:=HI.out _ (aE hjl);generalize xs[j]=x at*;have e0:=(HX.out.cell b _ hb).trans h0;have e1:=(HX.out.cell b _ hb).trans h1;have e2:=(HX.out.cell b _ hb).trans h2;have e3:=(HX.out.cell b _ hb).trans h3;have e4:=(HX.out.cell b _ hb).trans h4;have e5:=(HX.out.cell b _ hb).trans h5;obtain⟨A2,c2,rfl,_⟩:=hRa.form;have HRa:=G (hRa.keep (.of_ext HX.out) (Q:=P) (fun b hb _=>hb));have HIx:=G hIx;have HB:=G (ai wr 131 #[.int .i64 x.k, .string (ae x.op), .string (ae x.nm), .string (ae x.tx), .int .i64 x.v, .slice A2 x.args.length c2]);have hx1:=O wr (.cells #[.int .i64 x.k, .string (ae x.op), .string (ae x.nm), .string (ae x.tx), .int .i64 x.v, .slice A2 x.args.length c2] 131);have HX1:=G hx1;clear h0 h1 h2 h3 h4 h5 hRa hIx hx1;go_wp2_with fail;clear e0 e1 e2 e3 e4 e5
   refine am 16 12 [(13,fun v=> ∃A c,v= .slice A x.args.length c,fun v wx=>bZ wx (fun b=>wr.heap.size<=b) v x.args),
     (15,fun v=> ∃gb,v= .slice (some ⟨gb,0,none⟩) 1 1,fun v wx=> ∃gb A c,v= .slice (some ⟨gb,0,none⟩) 1 1/\wr.heap.size<=gb/\aT wx gb 49 #[.int .i64 x.k, .string (ae x.op), .string (ae x.nm), .string (ae x.tx), .int .i64 x.v, .slice A x.args.length c]/\bZ wx (fun b=>wr.heap.size<=b) (.slice A x.args.length c) x.args)] mixed (by kernel_rfl)
    ⟨fun _ _ _ h hx=>h.keep (.of_ext hx) (fun _ hb _=>hb),fun _ _ _ h hx=>(let⟨gb,A,c,h1,h2,h3,h4⟩:=h;⟨gb,A,c,h1,h2,h3.ext hx,h4.keep (.of_ext hx) (fun _ hb _=>hb)⟩),trivial⟩ ?_
   repeat (refine sx ?_ (fun w1 hU=> ?_) ?_;rotate_left;(focus have f1:=(HB.out.ext hU.un).cell;clear hU;go_simp<;>with_reducible rfl);simp only[bf,be,bc,a_,a8])
   refine bw _ _ (by rfl) rfl ⟨_,none,0,rfl⟩ (by simp) (fun w6 hU hp K hK=> ?_) ?_
   ·clear hp;have hE6:=HX1.out.trans hU.un;have hc:=HIx.out P w6 _ (HRa.out.keep (.of_ext hE6) (fun _ hb _=>hb));have hs:=hE6.size;clear hU hE6;go_simp;refine hc.mono ?_;rintro e w7 ⟨hE,A3,c3,rfl,hR3⟩;exact hK _ _ hE ⟨_,_,rfl⟩ (hR3.mono (fun b hb _=>aS hs hb))
   rintro _ ⟨A3,c3,rfl⟩;simp only[bf,be,bc,a_,a8];repeat (refine sx ?_ (fun w1 hU=> ?_) ?_;rotate_left;(focus go_simp<;>with_reducible rfl);simp only[bf,be,bc,a_,a8])
   refine bw _ _ (by rfl) rfl ⟨_,0,rfl⟩ (by simp) (fun w6 hU hp K hK=> ?_) ?_
   ·have h3:bZ w6 (fun b=>wr.heap.size<=b) (.slice A3 x.args.length c3) x.args:=hp _ (.head _) (by kernel_rfl);have hs:=(HX1.out.trans hU.un).size;clear hU hp;go_simp;exact hK _ _ (O w6 _) ⟨_,rfl⟩ ⟨_,_,_,rfl,hs,ai w6 _ _,h3.keep (.of_ext (O w6 _)) (fun _ hb _=>hb)⟩
   rintro _ ⟨gb,rfl⟩;simp only[bf,be,bc,a_,a8];intro w8 hw8 hp;obtain⟨gb',A4,c4,hgb,hz,hB3,hR3⟩:=hp _ (.head _);injection hgb with hgb;injection hgb with hgb;injection hgb with hgb;subst hgb;clear hp;simp only[ab,ap];have hE8:=HX1.out.trans hw8.un;have HX8:=G (HX.out.trans hE8);have hO8:=HO.out.ext hE8;have hrow:=aJ HO.out.1;have hs8:=HX8.out.size;have HR3:=G (hR3.mono (Q:=fun b=>w.heap.size<=b/\some b≠Value.ownBlock (.slice C j cap)) (fun b hb _=>⟨aS HX.out.size hb,fun e=>by have:=(hrow b e.symm).2;omega⟩));clear hw8 hE8 hR3;have hl8:=HL.out;refine cQ Ag rfl _ _ rfl w.heap.size _ j (fe acc) rfl (by have:=hO8.1;rw[hl8]at this;exact this) gb (qK x (.slice A4 x.args.length c4)) rfl hB3 rfl (ld _ _ _ _) (by omega) (by decide) hs8 ?_;intro A' cap' w9 hq1 hq2 hq3;have HO9:=G (hO8.snoc HR3.out (by rw[hl8];exact hq1) hq2 hq3);rw[hl8]at HO9;have HX9:=G (HX8.out.grown hq2 (fun k e=>(hrow k e).1));have HM9:=G (show(acc++[(x,Value.slice A4 x.args.length c4)]).map (·.1)=xs.take (j+1) by rw[HT.out,eJ,HM.out];rfl);have HL9:=G (show(acc++[(x,Value.slice A4 x.args.length c4)]).length=j+1 by rw[aa,hl8];rfl);clear hq1 hq2 hq3 hO8 hB3 HR3 hrow HM HL hl8 HT;go_wp2_with fail;go_roundw
   case rel=>exact⟨j+1,_,_,_,by go_num,rfl,by omega,HM9,HL9,HO9,HX9⟩
   case measure=>simp[intOf];omega
  ·have hlt': ¬(j:Int)<n:=by omega
   have hjn:j=n:=by omega
   subst hjn
   have HQ:=G (show bZ wr (fun b=>w.heap.size<=b) (.slice C j cap) xs by
    have:=HO.out.rd;rw[HM.out,aK (by have:=HN.out;omega)]at this
    exact this)
   clear HO HM HL;go_wp2_with fail;go_ret;exact⟨HX.out,C,cap,rfl,HQ.out⟩
theorem pP: ∀(k:Nat) (xs:List Ex),gv xs<k->k<=1000000001->tV xs
 |0,xs,h,_=>absurd h (bK _)
 |k+1,xs,h,hk=>sw xs (by have:=ed xs;omega) (fun x hx=>pP k x.args (by have:=ei hx;have:=x.wt_eq;omega) (by omega))
theorem yn {xs:List Ex} (h:gv xs<=1000000000):tV xs:=pP _ xs (dK _) (by omega)
theorem sr (xs:List St) (hl:xs.length<=1073741824) (hIH: ∀x,x∈xs->tV x.ex/\tU x.body/\tU x.els):tU xs:=by
 intro P w u hu;obtain⟨A,c,rfl,_⟩:=hu.form;obtain⟨n,hn⟩: ∃n,xs.length=n:=⟨_,rfl⟩
 rw[hn]at hu⊢;rw[hn]at hl;have HN:=G hn;have HR:=G hu;have HI:=G hIH;clear hu hIH hn;go_enter func36,ntmps36;go_wp2_with fail
 go_loopw [3,4] (fun vo vi wr=> ∃(j:Nat) (acc:List SV) (C:Option Addr) (cap:Nat),vi= .int .i64 (j:Int)/\vo= .slice C j cap/\j<=n/\Hid (acc.map (·.s)=xs.take j)/\Hid (acc.length=j)/\Hid (f8 wr w.heap.size 66 (.slice C j cap) acc)/\Hid (al w wr)) (fun vo vi _=>n-(intOf vi).toNat)
 case atStart=>exact⟨0,[],none,0,rfl,rfl,aB _,G rfl,G rfl,G (nj _ _ _),G (aG w)⟩
 case round=>
  obtain⟨j,acc,C,cap,rfl,rfl,hj,HM,HL,HO,HX⟩:=hrel;by_cases hlt:j<n
  ·have hlt':(j:Int)<n:=by omega
   have hjl:j<xs.length:=by have:=HN.out;omega
   obtain⟨b,o,a,g,z,rfl,hb,hP,h0,h1,h2,h3,h4,hRa,hRb,hRc⟩:=HR.out.at_ j hjl;have hbl:b<wr.heap.size:=an hb HX.out.size;have HT:=G (show xs.take (j+1)=xs.take j++[xs[j]]from aF hjl);have hIx:=HI.out _ (aE hjl);generalize xs[j]=x at*;have e0:=(HX.out.cell b _ hb).trans h0;have e1:=(HX.out.cell b _ hb).trans h1;have e2:=(HX.out.cell b _ hb).trans h2;have e3:=(HX.out.cell b _ hb).trans h3;have e4:=(HX.out.cell b _ hb).trans h4;obtain⟨A2,c2,rfl,_⟩:=hRa.form;obtain⟨B2,d2,rfl,_⟩:=hRb.form;obtain⟨C2,i2,rfl,_⟩:=hRc.form;have HRa:=G (hRa.keep (.of_ext HX.out) (Q:=P) (fun b hb _=>hb));have HRb:=G (hRb.keep (.of_ext HX.out) (Q:=P) (fun b hb _=>hb));have HRc:=G (hRc.keep (.of_ext HX.out) (Q:=P) (fun b hb _=>hb));have HIx:=G hIx;have HB:=G (ai wr 76 #[.int .i64 x.k, .string (ae x.nm), .slice A2 x.ex.length c2, .slice B2 x.body.length d2, .slice C2 x.els.length i2]);have hx1:=O wr (.cells #[.int .i64 x.k, .string (ae x.nm), .slice A2 x.ex.length c2, .slice B2 x.body.length d2, .slice C2 x.els.length i2] 76);have HX1:=G hx1;clear h0 h1 h2 h3 h4 hRa hRb hRc hIx hx1;go_wp2_with fail;clear e0 e1 e2 e3 e4
   refine am 16 12 [(7,fun v=> ∃A c,v= .slice A x.ex.length c,fun v wx=>bZ wx (fun b=>wr.heap.size<=b) v x.ex),
     (10,fun v=> ∃A c,v= .slice A x.body.length c,fun v wx=>cP wx (fun b=>wr.heap.size<=b) v x.body),(13,fun v=> ∃A c,v= .slice A x.els.length c,fun v wx=>cP wx (fun b=>wr.heap.size<=b) v x.els),
     (15,fun v=> ∃gb,v= .slice (some ⟨gb,0,none⟩) 1 1,fun v wx=> ∃gb A c B d C i,v= .slice (some ⟨gb,0,none⟩) 1 1/\wr.heap.size<=gb/\aT wx gb 66 #[.int .i64 x.k, .string (ae x.nm), .slice A x.ex.length c, .slice B x.body.length d, .slice C x.els.length i]/\bZ wx (fun b=>wr.heap.size<=b) (.slice A x.ex.length c) x.ex/\cP wx (fun b=>wr.heap.size<=b) (.slice B x.body.length d) x.body/\cP wx (fun b=>wr.heap.size<=b) (.slice C x.els.length i) x.els)] mixed (by kernel_rfl)
    ⟨fun _ _ _ h hx=>h.keep (.of_ext hx) (fun _ hb _=>hb),fun _ _ _ h hx=>h.keep (.of_ext hx) (fun _ hb _=>hb),fun _ _ _ h hx=>h.keep (.of_ext hx) (fun _ hb _=>hb),fun _ _ _ h hx=>(let⟨gb,A,c,B,d,C,i,h1,h2,h3,h4,h5,h6⟩:=h;⟨gb,A,c,B,d,C,i,h1,h2,h3.ext hx,h4.keep (.of_ext hx) (fun _ hb _=>hb),h5.keep (.of_ext hx) (fun _ hb _=>hb),h6.keep (.of_ext hx) (fun _ hb _=>hb)⟩),trivial⟩ ?_
   repeat (refine sx ?_ (fun w1 hU=> ?_) ?_;rotate_left;(focus have f1:=(HB.out.ext hU.un).cell;clear hU;go_simp<;>with_reducible rfl);simp only[bf,be,bc,a_,a8])
   refine bw _ _ (by rfl) rfl ⟨_,none,0,rfl⟩ (by simp) (fun w6 hU hp K hK=> ?_) ?_
   ·clear hp;have hE6:=HX1.out.trans hU.un;have hc:=HIx.out.1 P w6 _ (HRa.out.keep (.of_ext hE6) (fun _ hb _=>hb));have hs:=hE6.size;clear hU hE6;go_simp;refine hc.mono ?_;rintro e w7 ⟨hE,A3,c3,rfl,hR3⟩;exact hK _ _ hE ⟨_,_,rfl⟩ (hR3.mono (fun b hb _=>aS hs hb))
   rintro _ ⟨A3,c3,rfl⟩;simp only[bf,be,bc,a_,a8];repeat (refine sx ?_ (fun w1 hU=> ?_) ?_;rotate_left;(focus have f1:=(HB.out.ext hU.un).cell;clear hU;go_simp<;>with_reducible rfl);simp only[bf,be,bc,a_,a8])
   refine bw _ _ (by rfl) rfl ⟨_,none,0,rfl⟩ (by simp) (fun w6 hU hp K hK=> ?_) ?_
   ·clear hp;have hE6:=HX1.out.trans hU.un;have hc:=HIx.out.2.1 P w6 _ (HRb.out.keep (.of_ext hE6) (fun _ hb _=>hb));have hs:=hE6.size;clear hU hE6;go_simp;refine hc.mono ?_;rintro e w7 ⟨hE,A4,c4,rfl,hR3⟩;exact hK _ _ hE ⟨_,_,rfl⟩ (hR3.mono (fun b hb _=>aS hs hb))
   rintro _ ⟨B3,d3,rfl⟩;simp only[bf,be,bc,a_,a8];repeat (refine sx ?_ (fun w1 hU=> ?_) ?_;rotate_left;(focus have f1:=(HB.out.ext hU.un).cell;clear hU;go_simp<;>with_reducible rfl);simp only[bf,be,bc,a_,a8])
   refine bw _ _ (by rfl) rfl ⟨_,none,0,rfl⟩ (by simp) (fun w6 hU hp K hK=> ?_) ?_
   ·clear hp;have hE6:=HX1.out.trans hU.un;have hc:=HIx.out.2.2 P w6 _ (HRc.out.keep (.of_ext hE6) (fun _ hb _=>hb));have hs:=hE6.size;clear hU hE6;go_simp;refine hc.mono ?_;rintro e w7 ⟨hE,A4,c4,rfl,hR3⟩;exact hK _ _ hE ⟨_,_,rfl⟩ (hR3.mono (fun b hb _=>aS hs hb))
   rintro _ ⟨C3,i3,rfl⟩;simp only[bf,be,bc,a_,a8];repeat (refine sx ?_ (fun w1 hU=> ?_) ?_;rotate_left;(focus go_simp<;>with_reducible rfl);simp only[bf,be,bc,a_,a8])
   refine bw _ _ (by rfl) rfl ⟨_,0,rfl⟩ (by simp) (fun w6 hU hp K hK=> ?_) ?_
   ·have h3:cP w6 (fun b=>wr.heap.size<=b) (.slice C3 x.els.length i3) x.els:=hp _ (.head _) (by kernel_rfl);have h4:cP w6 (fun b=>wr.heap.size<=b) (.slice B3 x.body.length d3) x.body:=hp _ (.tail _ (.head _)) (by kernel_rfl);have h5:bZ w6 (fun b=>wr.heap.size<=b) (.slice A3 x.ex.length c3) x.ex:=hp _ (.tail _ (.tail _ (.head _))) (by kernel_rfl);have hs:=(HX1.out.trans hU.un).size;clear hU hp;go_simp;exact hK _ _ (O w6 _) ⟨_,rfl⟩ ⟨_,_,_,_,_,_,_,rfl,hs,ai w6 _ _,h5.keep (.of_ext (O w6 _)) (fun _ hb _=>hb),h4.keep (.of_ext (O w6 _)) (fun _ hb _=>hb),h3.keep (.of_ext (O w6 _)) (fun _ hb _=>hb)⟩
   rintro _ ⟨gb,rfl⟩;simp only[bf,be,bc,a_,a8];intro w8 hw8 hp;obtain⟨gb',A4,c4,B4,d4,C4,i4,hgb,hz,hB3,hR3,hR4,hR5⟩:=hp _ (.head _);injection hgb with hgb;injection hgb with hgb;injection hgb with hgb;subst hgb;clear hp;simp only[ab,ap];have hE8:=HX1.out.trans hw8.un;have HX8:=G (HX.out.trans hE8);have hO8:=HO.out.ext hE8;have hrow:=aJ HO.out.1;have hs8:=HX8.out.size;have hq: ∀b,wr.heap.size<=b->w.heap.size<=b/\some b≠Value.ownBlock (.slice C j cap):=fun b hb=>⟨aS HX.out.size hb,fun e=>by have:=(hrow b e.symm).2;omega⟩
   have HR3:=G (show SV.ok w8 (fun b=>w.heap.size<=b/\some b≠Value.ownBlock (.slice C j cap)) ⟨x, .slice A4 x.ex.length c4, .slice B4 x.body.length d4, .slice C4 x.els.length i4⟩from⟨hR3.mono (fun b hb _=>hq b hb),hR4.mono (fun b hb _=>hq b hb),hR5.mono (fun b hb _=>hq b hb)⟩);clear hw8 hE8 hR3 hR4 hR5 hq;have hl8:=HL.out;refine cQ Ae rfl _ _ rfl w.heap.size _ j (dO acc) rfl (by have:=hO8.1;rw[hl8]at this;exact this) gb (rN ⟨x, .slice A4 x.ex.length c4, .slice B4 x.body.length d4, .slice C4 x.els.length i4⟩) rfl hB3 rfl (oJ _ _ _ _ _ _ _ _ _ _) (by omega) (by decide) hs8 ?_;intro A' cap' w9 hq1 hq2 hq3;have HO9:=G (hO8.snoc HR3.out (by rw[hl8];exact hq1) hq2 hq3);rw[hl8]at HO9;have HX9:=G (HX8.out.grown hq2 (fun k e=>(hrow k e).1));have HM9:=G (show(acc++[SV.mk x (.slice A4 x.ex.length c4) (.slice B4 x.body.length d4) (.slice C4 x.els.length i4)]).map (·.s)=xs.take (j+1) by rw[HT.out,eJ,HM.out];rfl);have HL9:=G (show(acc++[SV.mk x (.slice A4 x.ex.length c4) (.slice B4 x.body.length d4) (.slice C4 x.els.length i4)]).length=j+1 by rw[aa,hl8];rfl);clear hq1 hq2 hq3 hO8 hB3 HR3 hrow HM HL hl8 HT;go_wp2_with fail;go_roundw
   case rel=>exact⟨j+1,_,_,_,by go_num,rfl,by omega,HM9,HL9,HO9,HX9⟩
   case measure=>simp[intOf];omega
  ·have hlt': ¬(j:Int)<n:=by omega
   have hjn:j=n:=by omega
   subst hjn
   have HQ:=G (show cP wr (fun b=>w.heap.size<=b) (.slice C j cap) xs by
    have:=HO.out.rd;rw[HM.out,aK (by have:=HN.out;omega)]at this
    exact this)
   clear HO HM HL;go_wp2_with fail;go_ret;exact⟨HX.out,C,cap,rfl,HQ.out⟩
theorem mt: ∀(k:Nat) (xs:List St),fQ xs<k->k<=1000000001->tU xs
 |0,xs,h,_=>absurd h (bK _)
 |k+1,xs,h,hk=>sr xs (by have:=eX xs;omega) (fun x hx=>⟨yn (by have:=dC hx;have:=x.wt_eq;omega),mt k x.body (by have:=dC hx;have:=x.wt_eq;omega) (by omega),mt k x.els (by have:=dC hx;have:=x.wt_eq;omega) (by omega)⟩)
theorem ym {xs:List St} (h:fQ xs<=1000000000):tU xs:=mt _ xs (dK _) (by omega)
end
section
open Go.RowKit
theorem Ad:jw prog 30 91 2 24 (.agg #[.string ⟨#[]⟩, .int .i64 0]):=⟨underlying30,by kernel_rfl,by rfl,by decide⟩
theorem Af:jw prog 31 68 3 64 (.agg #[.string ⟨#[]⟩, .slice none 0 0, .slice none 0 0]):=⟨underlying31,by kernel_rfl,by rfl,by decide⟩
theorem qR (p:Pg) (hv:p.vs.length<=1000000000) (hf:p.fs.length<=1000000000) (hb: ∀f,f∈p.fs->fQ f.body<=1000000000) (P:Nat->Prop) (w:World) (A B:Option Addr) (n c m d:Nat) (hV:iT w P (.slice A n c) p.vs) (hF:iU w P (.slice B m d) p.fs):
  Calls prog 13 #[.agg #[.slice A n c, .slice B m d]] w fun e w'=>al w w'/\ ∃A' n' c' B' m' d',e= .returned (.agg #[.slice A' n' c', .slice B' m' d'])/\iT w' (fun b=>P b\/w.heap.size<=b) (.slice A' n' c') p.vs/\iU w' (fun b=>P b\/w.heap.size<=b) (.slice B' m' d') p.fs:=by
 obtain⟨vs,fs⟩:=p;simp only at*;have hnv:n=vs.length:=by obtain⟨A',c',hh,_⟩:=hV;injection hh
 have hnf:m=fs.length:=by obtain⟨A',c',hh,_⟩:=hF;injection hh
 rw[<-hnv]at hv;rw[<-hnf]at hf;have HNV:=G hnv;have HNF:=G hnf;have HV:=G hV;have HF:=G hF;have HBD:=G hb;have HP0:=G (xF 26 33 w (.slice A n c) (.slice B m d));have HO0:=G (gN.nil_ 91 68 (QO w P) (((w.alloc (.cells #[.slice A n c, .slice B m d] 26)).alloc (.cells #[.slice none 0 0, .slice none 0 0] 33)).alloc (.cells #[.slice none 0 0, .slice none 0 0] 33)) (w.heap.size+3));clear hnv hnf hV hF hb;have c0:=HP0.out.bs.cell;go_enter func13,ntmps13;go_wp2_with fail
 go_loopw [4] (fun vi wr=> ∃(j:Nat) (C:Option Addr) (cap:Nat),vi= .int .i64 (j:Int)/\j<=n/\Hid (PO 26 33 w (.slice A n c) (.slice B m d) (.slice C j cap) (.slice none 0 0) wr)/\Hid (gN 91 68 (QO w P) wr (w.heap.size+3) (.slice C j cap) (.slice none 0 0) (vs.take j) [])) (fun vi _=>n-(intOf vi).toNat)
 case atStart=>exact⟨0,none,0,rfl,aB _,HP0,HO0⟩
 case round=>
  clear c0 HP0 HO0;obtain⟨j,C,cap,rfl,hj,HP,HO⟩:=hrel;have c0:=HP.out.bs.cell;by_cases hlt:j<n
  ·have hlt':(j:Int)<n:=by omega
   have hjl:j<vs.length:=by have:=HNV.out;omega
   obtain⟨b,o,rfl,hb,h0,h1⟩:=oN HV.out j hjl;have e0:=(HP.out.e.cell b _ hb).trans h0;have e1:=(HP.out.e.cell b _ hb).trans h1;have hbl:b<wr.heap.size:=an hb HP.out.e.size;have HT:=G (show vs.take (j+1)=vs.take j++[vs[j]]from aF hjl);have hlj:(vs.take j).length=j:=by rw[cO];omega
   generalize vs[j]=x at*;clear h0 h1 hjl;go_wp2_with fail;clear c0;have hrow:=aJ HO.out.1
   refine bC 9 12 [(7,fun v=> ∃gb,v= .slice (some ⟨gb,0,none⟩) 1 1,fun v wx=> ∃gb,v= .slice (some ⟨gb,0,none⟩) 1 1/\wr.heap.size<=gb/\aT wx gb 91 #[.string (ae x.nm), .int .i64 x.sz]),
     (8,fun v=> ∃A' cap',v= .slice (some ⟨A',0,none⟩) (j+1) cap',fun v wx=> ∃A' cap',v= .slice (some ⟨A',0,none⟩) (j+1) cap'/\wx.ownsRow (w.heap.size+3) 91 2 v (j+1) (fM (vs.take j)++qH x)/\(some A'=Value.ownBlock (.slice C j cap)\/wr.heap.size<=A'))] 8 (Value.ownBlock (.slice C j cap)) mixed (by kernel_rfl)
    ⟨fun _ _ _ h hx=>(let⟨gb,h1,h2,h3⟩:=h;⟨gb,h1,h2,h3.ext hx⟩),fun _ _ _ h hx=>(let⟨A',cap',h1,h2,h3⟩:=h;⟨A',cap',h1,bH h2 (hx.grownBy none) (.inr (by rw[h1];simp[Value.ownBlock])),h3⟩),trivial⟩
    ⟨.inr fun _ _ _ h hx=>(let⟨gb,h1,h2,h3⟩:=h;⟨gb,h1,h2,h3.grown hx (fun e=>by have:=(hrow _ e.symm).2;omega)⟩), .inl rfl,trivial⟩ ?_
   repeat (refine sx ?_ (fun w1 hU=> ?_) ?_;rotate_left;(focus have hpq:=HP.out.grown (aD hU) (fun k e=>(hrow k e).1);have f1:=hpq.bs.cell;have f2:=hpq.bo.cell;have hbk:=(aD hU).block b hbl (fun e=>by have:=(hrow _ e.symm).1;omega);have g0:=(b8 (w:=wr) (a:=⟨b,o+j*2,none⟩) hbk).trans e0;have g1:=(b8 (w:=wr) (a:=⟨b,o+j*2+1,none⟩) hbk).trans e1;clear hU hpq hbk;go_simp<;>with_reducible rfl);simp only[bf,be,bc,a_,a8])
   refine bw _ _ (by rfl) rfl ⟨_,0,rfl⟩ (by simp) (fun w6 hU hp K hK=> ?_) ?_
   ·have hs:=(aD hU).size;clear hU hp;go_simp;exact hK _ _ (O w6 _) ⟨_,rfl⟩ ⟨_,rfl,hs,ai w6 _ _⟩
   rintro _ ⟨gb,rfl⟩;simp only[bf,be,bc,a_,a8];refine ce _ _ (by rfl) rfl ⟨_,0,0,rfl⟩ rfl (fun w6 hT hp K hK=> ?_) ?_
   ·obtain⟨gb',hgb,hz,hB3⟩:=hp _ (.head _) (by kernel_rfl);injection hgb with hgb;injection hgb with hgb;injection hgb with hgb;subst hgb;have hO6:=HO.out.ext hT.un;have hs6:=(HP.out.ex hT.un).lt;have hs7:=hT.un.size;clear hp hT;refine oC Ad _ _ rfl (w.heap.size+3) _ j (fM (vs.take j)) rfl (by have:=hO6.1;rw[hlj]at this;exact this) gb (qH x) rfl hB3 rfl (vL x) (by omega) (by decide) (by omega) ?_;intro A' cap' w9 hq1 hq2 hq3;exact hK _ _ hq2 ⟨_,_,rfl⟩ ⟨_,_,rfl,hq1,hq3.imp_right (fun e=>by omega)⟩
   rintro _ ⟨A',cap',rfl⟩;simp only[bf,be,bc,a_,a8];repeat (refine sx ?_ (fun w1 hU=> ?_) ?_;rotate_left;(focus go_simp<;>with_reducible rfl);simp only[bf,be,bc,a_,a8])
   intro w8 hw8 hp;obtain⟨A2,cap2,hv2,hq1,hA⟩:=hp _ (.head _);injection hv2 with hv2 _ hv3;injection hv2 with hv2;injection hv2 with hv2;subst hv2 hv3;clear hp;simp only[ab,ap];have hg8:=aD hw8;have HP8:=G (HP.out.grown hg8 (fun k e=>(hrow k e).1));have HO8:=G (HO.out.snocV hlj hq1 hg8 hA);rw[<-HT.out]at HO8;have HP9:=G (HP8.out.putV (.slice (some ⟨A',0,none⟩) (j+1) cap'));have HO9:=G (HO8.out.far (b:=w.heap.size+1+1) (i:=0) (by omega) (by omega) (.slice (some ⟨A',0,none⟩) (j+1) cap'));have d0:=HP8.out.bo.cell;have z0:=HP8.out.bo.frozen;clear hw8 hg8 hq1 hA hrow HO HP HO8 HT hlj e0 e1;go_wp2_with fail;go_roundw
   case rel=>exact⟨j+1,_,_,by go_num,by omega,HP9,HO9⟩
   case measure=>simp[intOf];omega
  ·have hlt': ¬(j:Int)<n:=by omega
   have hjn:j=n:=by omega
   have HO1:=G (show gN 91 68 (QO w P) wr (w.heap.size+3) (.slice C j cap) (.slice none 0 0) vs ([].map id) by
    have:=HO.out;rw[aK (by have:=HNV.out;omega)]at this
    exact this)
   clear HO;obtain⟨vv,hvv⟩: ∃vv,Value.slice C j cap=vv:=⟨_,rfl⟩
   rw[hvv]at HO1 HP;have HVV:=G hvv;clear hvv hjn hj hlt c0;have c0:=HP.out.bs.cell;go_wp2_with fail
   go_loopw [5] (fun vi wr=> ∃(j:Nat) (acc:List FV) (C:Option Addr) (cap:Nat),vi= .int .i64 (j:Int)/\j<=m/\Hid (acc.map (·.c)=fs.take j)/\Hid (acc.length=j)/\Hid (PO 26 33 w (.slice A n c) (.slice B m d) vv (.slice C j cap) wr)/\Hid (gN 91 68 (QO w P) wr (w.heap.size+3) vv (.slice C j cap) vs acc)) (fun vi _=>m-(intOf vi).toNat)
   case atStart=>exact⟨0,[],none,0,rfl,aB _,G rfl,G rfl,HP,HO1⟩
   case round=>
    clear c0 HP HO1;obtain⟨j,acc,C,cap,rfl,hj,HM,HL,HP,HO⟩:=hrel;have c0:=HP.out.bs.cell;by_cases hlt:j<m
    ·have hlt':(j:Int)<m:=by omega
     have hjl:j<fs.length:=by have:=HNF.out;omega
     obtain⟨b,o,pv,bv,rfl,hb,h0,h1,h2,hRp,hRb⟩:=mh HF.out j hjl;have e0:=(HP.out.e.cell b _ hb).trans h0;have e1:=(HP.out.e.cell b _ hb).trans h1;have e2:=(HP.out.e.cell b _ hb).trans h2;have hbl:b<wr.heap.size:=an hb HP.out.e.size;have HT:=G (show fs.take (j+1)=fs.take j++[fs[j]]from aF hjl);have hwx:=HBD.out _ (aE hjl);generalize fs[j]=x at*;have hlp: ∃A' c',pv= .slice A' x.ps.length c':=by obtain⟨A',c',hh,_⟩:=hRp;exact⟨A',c',hh⟩
     obtain⟨A3,c3,rfl⟩:=hlp;obtain⟨B3,d3,rfl,_⟩:=hRb.form;have HRp:=G hRp;have hrow:=aJ HO.out.2.1;have hrow1:=aJ HO.out.1;have HCB:=G (fun(W:World) (h:wr.grownBy W (Value.ownBlock (.slice C j cap)))=>ym hwx P W (.slice B3 x.body.length d3) (hRb.keep ⟨aS HP.out.e.size h.size,fun b _ hb=>(h.block b (an hb HP.out.e.size) (fun e=>by have:=(hrow _ e.symm).1;omega)).trans (HP.out.e.obj hb)⟩ (fun _ hb _=>hb)));clear h0 h1 h2 hjl hRp hRb hwx;go_wp2_with fail;clear c0
     refine bC 24 12 [(20,fun v=> ∃A c,v= .slice A x.body.length c,fun v wx=>cP wx (fun b=>wr.heap.size<=b) v x.body),
       (22,fun v=> ∃gb,v= .slice (some ⟨gb,0,none⟩) 1 1,fun v wx=> ∃gb B4 d4,v= .slice (some ⟨gb,0,none⟩) 1 1/\wr.heap.size<=gb/\aT wx gb 68 #[.string (ae x.nm), .slice A3 x.ps.length c3, .slice B4 x.body.length d4]/\cP wx (fun b=>wr.heap.size<=b) (.slice B4 x.body.length d4) x.body),
       (23,fun v=> ∃A' cap',v= .slice (some ⟨A',0,none⟩) (j+1) cap',fun v wx=> ∃A' cap' B4 d4,v= .slice (some ⟨A',0,none⟩) (j+1) cap'/\wx.ownsRow (w.heap.size+3) 68 3 v (j+1) (fO acc++qJ ⟨x, .slice A3 x.ps.length c3, .slice B4 x.body.length d4⟩)/\(some A'=Value.ownBlock (.slice C j cap)\/wr.heap.size<=A')/\cP wx (fun b=>wr.heap.size<=b/\b≠A') (.slice B4 x.body.length d4) x.body)] 23 (Value.ownBlock (.slice C j cap)) mixed (by kernel_rfl)
      ⟨fun _ _ _ h hx=>h.keep (.of_ext hx) (fun _ hb _=>hb),fun _ _ _ h hx=>(let⟨gb,B4,d4,h1,h2,h3,h4⟩:=h;⟨gb,B4,d4,h1,h2,h3.ext hx,h4.keep (.of_ext hx) (fun _ hb _=>hb)⟩),fun _ _ _ h hx=>(let⟨A',cap',B4,d4,h1,h2,h3,h4⟩:=h;⟨A',cap',B4,d4,h1,bH h2 (hx.grownBy none) (.inr (by rw[h1];simp[Value.ownBlock])),h3,h4.keep (.of_ext hx) (fun _ hb _=>hb)⟩),trivial⟩
      ⟨.inr fun _ _ _ h hx=>h.keep (.of_grown hx fun b hb e=>by have:=(hrow _ e.symm).2;omega) (fun _ hb _=>hb), .inr fun _ _ _ h hx=>(let⟨gb,B4,d4,h1,h2,h3,h4⟩:=h;⟨gb,B4,d4,h1,h2,h3.grown hx (fun e=>by have:=(hrow _ e.symm).2;omega),h4.keep (.of_grown hx fun b hb e=>by have:=(hrow _ e.symm).2;omega) (fun _ hb _=>hb)⟩), .inl rfl,trivial⟩ ?_
     repeat (refine sx ?_ (fun w1 hU=> ?_) ?_;rotate_left;(focus have hpq:=HP.out.grown (aD hU) (fun k e=>(hrow k e).1);have f1:=hpq.bs.cell;have f2:=hpq.bo.cell;have hbk:=(aD hU).block b hbl (fun e=>by have:=(hrow _ e.symm).1;omega);have g0:=(b8 (w:=wr) (a:=⟨b,o+j*3,none⟩) hbk).trans e0;have g1:=(b8 (w:=wr) (a:=⟨b,o+j*3+1,none⟩) hbk).trans e1;have g2:=(b8 (w:=wr) (a:=⟨b,o+j*3+2,none⟩) hbk).trans e2;clear hU hpq hbk;go_simp<;>with_reducible rfl);simp only[bf,be,bc,a_,a8])
     refine bw _ _ (by rfl) rfl ⟨_,none,0,rfl⟩ (by simp) (fun w6 hU hp K hK=> ?_) ?_
     ·clear hp;have hc:=HCB.out w6 (aD hU);have hs:=(aD hU).size;clear hU;go_simp;refine hc.mono ?_;rintro e w7 ⟨hE,A4,c4,rfl,hR3⟩;exact hK _ _ hE ⟨_,_,rfl⟩ (hR3.mono (fun b hb _=>aS hs hb))
     rintro _ ⟨A4,c4,rfl⟩;simp only[bf,be,bc,a_,a8];repeat (refine sx ?_ (fun w1 hU=> ?_) ?_;rotate_left;(focus go_simp<;>with_reducible rfl);simp only[bf,be,bc,a_,a8])
     refine bw _ _ (by rfl) rfl ⟨_,0,rfl⟩ (by simp) (fun w6 hU hp K hK=> ?_) ?_
     ·have h3:cP w6 (fun b=>wr.heap.size<=b) (.slice A4 x.body.length c4) x.body:=hp _ (.head _) (by kernel_rfl);have hs:=(aD hU).size;clear hU hp;go_simp;exact hK _ _ (O w6 _) ⟨_,rfl⟩ ⟨_,_,_,rfl,hs,ai w6 _ _,h3.keep (.of_ext (O w6 _)) (fun _ hb _=>hb)⟩
     rintro _ ⟨gb,rfl⟩;simp only[bf,be,bc,a_,a8];refine ce _ _ (by rfl) rfl ⟨_,0,0,rfl⟩ rfl (fun w6 hT hp K hK=> ?_) ?_
     ·obtain⟨gb',B4,d4,hgb,hz,hB3,hR3⟩:=hp _ (.head _) (by kernel_rfl);injection hgb with hgb;injection hgb with hgb;injection hgb with hgb;subst hgb;have hO6:=HO.out.ext hT.un;have hs6:=(HP.out.ex hT.un).lt;have hs7:=hT.un.size;have hl8:=HL.out;clear hp hT;refine oC Af _ _ rfl (w.heap.size+3) _ j (fO acc) rfl (by have:=hO6.2.1;rw[hl8]at this;exact this) gb (qJ ⟨x, .slice A3 x.ps.length c3, .slice B4 x.body.length d4⟩) rfl hB3 rfl (wm _ _ _ _ _ _ _) (by omega) (by decide) (by omega) ?_;intro A' cap' w9 hq1 hq2 hq3;exact hK _ _ hq2 ⟨_,_,rfl⟩ ⟨_,_,_,_,rfl,hq1,hq3.imp_right (fun e=>by omega),hR3.keep (.of_grown hq2 fun b hb e=>by have:=(hrow _ e.symm).2;omega) (fun b hb hlt=>⟨hb,fun e=>by rcases hq3 with hq3|hq3;(have:=(hrow _ hq3.symm).2;omega);omega⟩)⟩
     rintro _ ⟨A',cap',rfl⟩;simp only[bf,be,bc,a_,a8];repeat (refine sx ?_ (fun w1 hU=> ?_) ?_;rotate_left;(focus go_simp<;>with_reducible rfl);simp only[bf,be,bc,a_,a8])
     intro w8 hw8 hp;obtain⟨A2,cap2,B4,d4,hv2,hq1,hA,hR4⟩:=hp _ (.head _);injection hv2 with hv2 _ hv3;injection hv2 with hv2;injection hv2 with hv2;subst hv2 hv3;clear hp;simp only[ab,ap];have hg8:=aD hw8;have hlw:=HP.out.lt;have HP8:=G (HP.out.grown hg8 (fun k e=>(hrow k e).1));have hok:FV.ok w8 (fun b=>QO w P b/\some b≠vv.ownBlock/\b≠A') ⟨x, .slice A3 x.ps.length c3, .slice B4 x.body.length d4⟩:=by
      refine⟨HRp.out.keep (.of_ext HP8.out.e) (fun b hb hlt=>⟨.inl ⟨hb,hlt⟩,fun e=>by have:=(hrow1 b e.symm).1;omega,fun e=>by rcases hA with hA|hA;(have:=(hrow _ hA.symm).1;omega);omega⟩),hR4.mono (fun b hb hlt=>⟨.inr (by omega),fun e=>by have:=(hrow1 b e.symm).2;omega,hb.2⟩)⟩
     have HO8:=G (HO.out.snocF hok HL.out hq1 hg8 hA);have HP9:=G (HP8.out.putF (.slice (some ⟨A',0,none⟩) (j+1) cap'));have HO9:=G (HO8.out.far (b:=w.heap.size+1+1) (i:=1) (by omega) (by omega) (.slice (some ⟨A',0,none⟩) (j+1) cap'));have HM9:=G (show(acc++[FV.mk x (.slice A3 x.ps.length c3) (.slice B4 x.body.length d4)]).map (·.c)=fs.take (j+1) by rw[HT.out,eJ,HM.out];rfl);have HL9:=G (show(acc++[FV.mk x (.slice A3 x.ps.length c3) (.slice B4 x.body.length d4)]).length=j+1 by rw[aa,HL.out];rfl);have d0:=HP8.out.bo.cell;have z0:=HP8.out.bo.frozen;clear hw8 hg8 hq1 hA hrow hrow1 HO HP HO8 HT HM HL e0 e1 e2 hok hR4 hlw;go_wp2_with fail;go_roundw
     case rel=>exact⟨j+1,_,_,_,by go_num,by omega,HM9,HL9,HP9,HO9⟩
     case measure=>simp[intOf];omega
    ·have hlt': ¬(j:Int)<m:=by omega
     obtain⟨hrv,hrf⟩:=HO.out.rd (fun b hb=> .inr hb);rw[HM.out,aK (by have:=HNF.out;omega)]at hrf;have hkk:=uN (um (P:=P) (w:=w) (W:=wr) (b:=w.heap.size+1) (i:=0) vv (by omega) (by omega)) (um (P:=P) (w:=w) (b:=w.heap.size+1) (i:=1) (.slice C j cap) (by omega) (by omega));have HRV:=G (hrv.keep hkk (Q:=fun b=>P b\/w.heap.size<=b) (fun b hb _=>by rcases hb with hb|hb;(exact .inl hb.1);(exact .inr (by omega))));have HRF:=G (hrf.keep hkk (Q:=fun b=>P b\/w.heap.size<=b) (fun b hb _=>by rcases hb with hb|hb;(exact .inl hb.1);(exact .inr (by omega))));have HE9:=G ((HP.out.e.set (p:=⟨w.heap.size+1,0,none⟩) (by show w.heap.size<=w.heap.size+1;omega) vv).set (p:=⟨w.heap.size+1,1,none⟩) (by show w.heap.size<=w.heap.size+1;omega) (.slice C j cap));have hB9:=(HP.out.bz.set 0 vv).set 1 (.slice C j cap);have hz9:=hB9.cell;have d0:=HP.out.bo.cell;have d1:=HP.out.bz.cell;have z1:=HP.out.bz.frozen;clear hrv hrf hkk HO HM HL hB9;have hvv:=HVV.out;subst hvv;go_wp2_with fail;refine bodyPost_ret (v:= .agg #[.slice _ _ _, .slice C j cap]) ?_ rfl ⟨HE9.out,_,_,_,_,_,_,rfl,HRV.out,HRF.out⟩;simp[results,results13,go_sem,hz9]
end
section
open Go.RowKit
theorem tT {p:Pg} (hw:kU p<=6000000) {P:Nat->Prop} {w:World} {A B:Option Addr} {n c m d:Nat} (hV:iT w P (.slice A n c) p.vs) (hF:iU w P (.slice B m d) p.fs):
  Calls prog 13 #[.agg #[.slice A n c, .slice B m d]] w fun e w'=>al w w'/\ ∃A' n' c' B' m' d',e= .returned (.agg #[.slice A' n' c', .slice B' m' d'])/\iT w' (fun _=>True) (.slice A' n' c') p.vs/\iU w' (fun _=>True) (.slice B' m' d') p.fs:=by
 have h1:p.vs.length<=kU p:=by
  have:=ku (fun _:Vr=>1) (fun v=>v.nm.length+1) p.vs (fun v _=>by omega);rw[i6]at this;unfold kU;omega
 have h2:p.fs.length<=kU p:=by
  have:=ku (fun _:Fc=>1) (fun f=>f.wt+1) p.fs (fun v _=>by omega);rw[i6]at this;unfold kU;omega
 refine(qR p (by omega) (by omega) (fun f hf=>by have:=mL hf;unfold Fc.wt at this;omega) P w A B n c m d hV hF).mono fun e w' hh=> ?_;obtain⟨hE,A',n',c',B',m',d',he,h1,h2⟩:=hh;exact⟨hE,A',n',c',B',m',d',he,h1.keep ⟨ag _,fun _ _ _=>rfl⟩ (fun _ _ _=>trivial),h2.keep ⟨ag _,fun _ _ _=>rfl⟩ (fun _ _ _=>trivial)⟩
end
end Go.Proofs.YtelplgkppalmfaaGreatDoor
