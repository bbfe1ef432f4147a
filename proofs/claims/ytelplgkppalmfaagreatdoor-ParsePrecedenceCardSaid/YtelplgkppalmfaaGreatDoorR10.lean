/-
  Parts of the proof: SeqH SeqK.
-/
import Derived.OrdersHeld
import Derived.Test.YtelplgkppalmfaaGreatDoorR00
set_option maxRecDepth 100000
set_option maxHeartbeats 8000000
set_option linter.unusedVariables false
namespace Go.Proofs.YtelplgkppalmfaaGreatDoor
open Go
def OnlyNormal (Q:Exit->Act->World->Prop):Exit->Act->World->Prop:=fun e a w=>match e with
 | .normal=>Q .normal a w
 | _=>False
theorem OnlyNormal.imp {Q:Exit->Act->World->Prop}: ∀(e:Exit) (a:Act) (w:World),OnlyNormal Q e a w->Q e a w:=fun e a w h=>by
 cases e<;>first|exact h|exact(h:False).elim
section
variable {P:Program} {ops:Array Oper} {Q:Exit->Act->World->Prop} {S:World->Prop}
def WOH (P:Program) (ops:Array Oper) (Q:Exit->Act->World->Prop) (S:World->Prop) (i:Nat) (K:Act->World->Prop) (a:Act) (w:World):Prop:=wpOp P ops Q i (fun a' w'=>S w'/\K a' w') a w
theorem stepOk_held:StepOkS P ops S (WOH P ops Q S) where
 mono:=fun h=>wpOp_mono fun a w hk=>⟨hk.1,h a w hk.2⟩
 skip:=fun ho hw hs h=>by unfold WOH wpOp;simp only[ho,hw];exact⟨hs,h⟩
 run:=fun ho hw hd h=>by
  have:=stepOk_plain (P:=P) (ops:=ops) (Q:=Q).run ho hw hd h;exact this
def tailS (P:Program) (ops:Array Oper) (N:Act->World->Prop) (S:World->Prop):List Oper->Act->World->Prop
 | [],a,w=>N a w
 |o::l,a,w=>Region.wanted o (yielded ops a.tmps)=true/\(∀c,o.op≠ .defer c)/\o.wp P a w (fun a' w'=>S w'/\tailS P ops N S l a' w') (fun _ _ _=>False)
theorem tailS_step {N:Act->World->Prop} {o:Oper} {l:List Oper} {a:Act} {w:World} (hw:Region.wanted o (yielded ops a.tmps)=true) (hd: ∀c,o.op≠ .defer c)
  (h: ∀K:Act->World->Prop,(∀a' w',S w'->tailS P ops N S l a' w'->K a' w')->o.wp P a w K (fun _ _ _=>False)):tailS P ops N S (o::l) a w:=⟨hw,hd,h _ fun _ _ h1 h2=>⟨h1,h2⟩⟩
theorem tailS_nil {Q:Exit->Act->World->Prop} {a:Act} {w:World} (h:wpList P ops Q [] a w):tailS P ops (Q .normal) S [] a w:=h
theorem tailG_held {N:Act->World->Prop}: ∀(n k:Nat) (a:Act) (w:World),k+n=ops.size->tailS P ops N S (ops.toList.drop k) a w->tailG (WOH P ops Q S) N (List.range' k n) a w
 |0,k,a,w,hk,h=>by
  rw[List.drop_of_length_le (by simp;omega)]at h;exact h
 |n+1,k,a,w,hk,h=>by
  have hl:k<ops.toList.length:=by simp;omega
  rw[List.drop_eq_getElem_cons hl]at h;obtain⟨h1,h2,h3⟩:=h;have ho:ops[k]? =some ops.toList[k]:=by simp
  show WOH P ops Q S k (tailG (WOH P ops Q S) N (List.range' (k+1) n)) a w;refine stepOk_held.run ho h1 h2 ?_;refine stepOk_mono h3 fun a' w' hk'=>⟨hk'.1,tailG_held n (k+1) a' w' (by omega) hk'.2⟩
where
 stepOk_mono {o:Oper} {a:Act} {w:World} {K K':Act->World->Prop} (h:o.wp P a w K (fun _ _ _=>False)) (hk: ∀a w,K a w->K' a w):o.wp P a w K' (fun _ _ _=>False):=Oper.wp_mono hk h
end
end Go.Proofs.YtelplgkppalmfaaGreatDoor
namespace Go.Proofs.YtelplgkppalmfaaGreatDoor
open Go
section
variable {P:Program} {ops:Array Oper} {m size:Nat} {pre:List Nat}
def firstT (ops:Array Oper) (tk:List Nat) (l:Array Bool):Option Nat:=tk.find? fun j=>(Region.ready .any ops l).contains j
theorem firstT_some {tk:List Nat} {l:Array Bool} {i:Nat} (h:firstT ops tk l=some i):i∈tk/\i∈Region.ready .any ops l:=
 ⟨List.mem_of_find?_eq_some h,by have:=List.find?_some h;simpa using this⟩
theorem firstT_none {tk:List Nat} {l:Array Bool} (h:firstT ops tk l=none): ∀j∈tk,¬j∈Region.ready .any ops l:=fun j hj hr=>by
 have:=List.find?_eq_none.1 h j hj;exact this (by simpa using hr)
def tkB (ops:Array Oper) (tk:List Nat) (m:Nat):Bool:=
 tk.all fun i=>decide (i<m)&&(List.range ops.size).all fun j=>j==i||dirB ops j i||ancB ops 4 i j||(match ops[i]?,ops[j]? with|some oi,some oj=>oi.apart ops oj| _,_=>false)
theorem tkB_lt {tk:List Nat} (h:tkB ops tk m=true) {i:Nat} (hi:i∈tk):i<m:=by
 simp only[tkB,List.all_eq_true,Bool.and_eq_true,decide_eq_true_eq]at h;exact(h i hi).1
theorem tkB_apart {tk:List Nat} (h:tkB ops tk m=true) {i j:Nat} (hi:i∈tk) {oi oj:Oper} (hoi:ops[i]? =some oi) (hoj:ops[j]? =some oj) (hji:j≠i) (h1:dirB ops j i=false) (h2:ancB ops 4 i j=false):oi.apart ops oj=true:=by
 simp only[tkB,List.all_eq_true,Bool.and_eq_true,decide_eq_true_eq]at h;have h3:=(h i hi).2 j (by rw[List.mem_range];exact(Array.getElem?_eq_some_iff.1 hoj).1);rw[hoi,hoj,h1,h2]at h3;have h4:(j==i)=false:=by simpa using hji
 rw[h4]at h3;simpa using h3
def anyK (P:Program) (ops:Array Oper) (tk:List Nat) (S:World->Prop) (WO:Nat->(Act->World->Prop)->Act->World->Prop) (N:Act->World->Prop):Nat->Array Bool->Act->World->Prop
 |0,l,a,w=>Region.ready .any ops l=[]/\N a w
 |fuel+1,l,a,w=>match firstT ops tk l with
  |some i=> ∃v o,ops[i]? =some o/\YieldsIf P ops S o v a/\anyK P ops tk S WO N fuel (l.setIfInBounds i true) (a.put o.dst v) w
  |none=>(Region.ready .any ops l=[]->N a w)/\ ∀i∈Region.ready .any ops l,WO i (anyK P ops tk S WO N fuel (l.setIfInBounds i true)) a w
section
variable {tk:List Nat} {S:World->Prop} {WO:Nat->(Act->World->Prop)->Act->World->Prop} {N:Act->World->Prop}
theorem anyK_some {fuel:Nat} {l:Array Bool} {a:Act} {w:World} {i:Nat} (h:firstT ops tk l=some i)
  (hk: ∃v o,ops[i]? =some o/\YieldsIf P ops S o v a/\anyK P ops tk S WO N fuel (l.setIfInBounds i true) (a.put o.dst v) w):anyK P ops tk S WO N (fuel+1) l a w:=by
 simp only[anyK,h];exact hk
theorem anyK_none {fuel:Nat} {l:Array Bool} {a:Act} {w:World} (h:firstT ops tk l=none)
  (hk:(Region.ready .any ops l=[]->N a w)/\ ∀i∈Region.ready .any ops l,WO i (anyK P ops tk S WO N fuel (l.setIfInBounds i true)) a w):anyK P ops tk S WO N (fuel+1) l a w:=by
 simp only[anyK,h];exact hk
theorem firstT_done {l:Array Bool} (h: ∀j∈tk,l.getD j true=true):firstT ops tk l=none:=by
 unfold firstT;rw[List.find?_eq_none];intro j hj hr;have hr:j∈Region.ready .any ops l:=by simpa using hr
 have:=(ready_iff.1 hr).1;rw[h j hj]at this
 cases this
theorem anyK_of_anyG {S':World->Prop} (hW:StepOkS P ops S' WO): ∀(fuel:Nat) (l:Array Bool) (a:Act) (w:World),(∀j∈tk,l.getD j true=true)->anyG WO N ops fuel l a w->anyK P ops tk S WO N fuel l a w
 |0,_,_,_,_,h=>h
 |fuel+1,l,a,w,hd,h=>anyK_none (firstT_done hd) ⟨h.1,fun i hi=>hW.mono (fun a w h'=>anyK_of_anyG hW fuel _ a w (fun j hj=>by
   have:=hd j hj;simp only[Array.getD_eq_getD_getElem?,Array.getElem?_setIfInBounds]at this⊢;split
   ·split<;>rfl
   ·exact this) h') (h.2 i hi)⟩
end
section
variable {f:Nat} {tab:Tab} {late:Option Nat} {nw:Nat->Bool} {T U:World->World->Prop} {w0:World} {a0:Act}
variable {WO:Nat->(Act->World->Prop)->Act->World->Prop} {N:Act->World->Prop}
theorem main_anyK (htk:tkB ops pre m=true) (htn: ∀j∈pre,tab j=none) (hW:StepOkS P ops (U w0) WO) (hok:okP pre ops m a0.tmps.size=true) (hTr:U w0 w0) (hTt: ∀a b c,U a b->U b c->U a c) (hTU: ∀a b,T a b->U a b) (hTT: ∀a b c,T a b->T b c->T a c) (hTs: ∀i Sh F,tab i=some (Sh,F)-> ∀v w w',F v w->T w w'->F v w')
  (hUs: ∀i Sh F,late≠some i->tab i=some (Sh,F)-> ∀v w w',F v w->U w w'->F v w') (hT1: ∀w,T w w)
  (hNw: ∀i,nw i=true-> ∃Sh F,tab i=some (Sh,F)/\ ∀v w,F v w-> ∀g,pB v=some g->g<w.heap.size)
  (h:SeqW P ops f tab late nw T U w0 (fun a Φ=> ∀w,U w0 w->(∀p∈Φ,p.2 w)->PairAt ops m nw (fun _=>True) a->tailG WO N (List.range' m (ops.size-m)) a w) (ops.toList.take m) 0 a0 []):
  ∀(n:Nat) (l:Array Bool) (a:Act) (w:World),n=unl m l->l.size=ops.size->(∀i,i<ops.size->m<=i->l.getD i true=false)->Closed ops (fun i=>l.getD i false=true)->
   Inv P ops m tab late nw T U w0 a0 (fun i=>l.getD i false=true) a w->anyK P ops pre (U w0) WO N (ops.size-m+n) l a w:=by
 have hmle:=ok_le hok;intro n
 induction n with
 |zero=>
  intro l a w hn hl hm hC hI;have hall:=unl_zero m hn.symm;have hD: ∀i,i<m->l.getD i false=true:=fun i hi=>by
   have h1:=hall i hi;have h3:i<l.size:=by omega
   simp only[Array.getD_eq_getD_getElem?,Array.getElem?_eq_getElem h3,Option.getD_some]at h1⊢;exact h1
  obtain⟨c,Φ,hs,h1,h2,h3,h4,h5⟩:=chain hok hTr h hC hI m (Nat.le_refl _);rw[List.drop_of_length_le (l:=ops.toList.take m) (i:=m) (List.length_take_le _ _)]at hs
  obtain rfl:c=a:=act_ext (by rw[h1,hI.size]) (fun t=>by
   by_cases hex: ∃(i:Nat) (oi:Oper),i<m/\ops[i]? =some oi/\oi.dst=some t
   ·obtain⟨i,oi,him,hoi,hdi⟩:=hex;exact h4 i oi t him (hD i him) hoi hdi
   ·rw[hI.base t (fun i oi him hoi hdi=>hex ⟨i,oi,him,hoi,hdi⟩),h3 t (fun i oi him hoi hdi=>hex ⟨i,oi,him,hoi,hdi⟩)]) (by rw[h2,hI.defers])
  refine anyK_of_anyG hW (ops.size-m+0) l c w (fun j hj=>hall j (tkB_lt htk hj)) ?_;refine tail_any hW hok (ops.size-m+0) m l c w (by omega) (Nat.le_refl _) hmle hl (fun i hi=> ?_) (hs w hI.step (fun p hp=> ?_) ?_)
  ·by_cases him:i<m
   ·rw[hall i him];simp[him]
   ·rw[hm i hi (by omega)];simp[him]
  ·obtain⟨hlt,o,d,Sh,F,ho,hd,ht,hF,hw⟩:=h5 p hp;rw[hF];exact hI.fact p.1 o d (hD _ hlt) hlt ho hd (hw (hD _ hlt)) Sh F ht
  ·intro i j oi oj di dj _ _ hi hj;exact hI.pair i j oi oj di dj (hD i hi) (hD j hj) hi hj
 |succ n ih=>
  intro l a w hn hl hm hC hI;have hlf: ∀i,i<ops.size->l.getD i false=l.getD i true:=fun i hi=>by
   have h3:i<l.size:=by omega
   simp only[Array.getD_eq_getD_getElem?,Array.getElem?_eq_getElem h3,Option.getD_some]
  have hsz:ops.size-m+(n+1)=(ops.size-m+n)+1:=by omega
  rw[hsz]
  cases hft:firstT ops pre l with
  |some i=>
   refine anyK_some hft ?_;obtain⟨hit,hi⟩:=firstT_some hft;obtain⟨h1,o',ho',h2⟩:=ready_iff.1 hi;have hilt:=(Array.getElem?_eq_some_iff.1 ho').1;have hdeps: ∀k,dirB ops i k=true->l.getD k false=true:=fun k hk=>by
    obtain⟨e,he,hb,hon⟩:=(dir_iff ho').1 hk;rw[<-hon];exact h2 e he hb
   have him:i<m:=tkB_lt htk hit;obtain⟨o,d,ho,hd,hdl,hsel,hdef,huniq,hlook⟩:=ok_free hok him;rw[ho]at ho';injection ho' with ho';subst ho';obtain⟨c,Φ,hs,g1,g2,g3,g4,g5⟩:=chain hok hTr h hC hI i (by omega);have hlen:i<(ops.toList.take m).length:=by simp;omega
   have hget:(ops.toList.take m)[i]=o:=by
    have:=(Array.getElem?_eq_some_iff.1 ho).2;simp[this]
   rw[List.drop_eq_getElem_cons hlen,hget]at hs;have same:SameFor ops o a c:=fun t ht=>by
    by_cases hex: ∃(k:Nat) (oi:Oper),k<m/\ops[k]? =some oi/\oi.dst=some t
    ·obtain⟨k,oi,hkm,hoi,hdi⟩:=hex;have hdir:=hlook k hkm oi t hoi hdi ht;have hik:k<i:=by
      obtain⟨e,he,hb,hon⟩:=(dir_iff ho).1 hdir;have:=ok_lt hok ho e he hb;omega
     exact(g4 k oi t hik (hdeps k hdir) hoi hdi).symm
    ·rw[hI.base t (fun i oi him hoi hdi=>hex ⟨i,oi,him,hoi,hdi⟩),g3 t (fun i oi him hoi hdi=>hex ⟨i,oi,him,hoi,hdi⟩)]
   have hz:a.tmps.size=c.tmps.size:=by rw[hI.size,g1]
   have hC':Closed ops (fun j=>(l.setIfInBounds i true).getD j false=true):=fun j k hj hjk=>by
    have set: ∀j,(l.setIfInBounds i true).getD j false=if j=i then true else l.getD j false:=fun j=>by
     simp only[Array.getD_eq_getD_getElem?,Array.getElem?_setIfInBounds];by_cases h:i=j
     ·subst h;simp[hl,hilt]
     ·rw[if_neg h,if_neg (fun e=>h e.symm)]
    simp only[set]at hj⊢;by_cases hji:j=i
    ·subst hji;by_cases hki:k=j
     ·rw[if_pos hki]
     ·rw[if_neg hki];exact hdeps k hjk
    ·rw[if_neg hji]at hj;by_cases hki:k=i
     ·rw[if_pos hki]
     ·rw[if_neg hki];exact hC j k hj hjk
   -- the step: a value v in slot d
   have go: ∀v w',(if late=some i then U w w' else T w w')->OkAt P ops tab U w0 i o d (a.put o.dst v)->(Region.wanted o (yielded ops a.tmps)=true-> ∀Sh F,tab i=some (Sh,F)->F v w')->(nw i=true-> ∀g,pB v=some g->w.heap.size<=g)->
     anyK P ops pre (U w0) WO N (ops.size-m+n) (l.setIfInBounds i true) (a.put o.dst v) w':=by
    intro v w' hstep0 hOk hFact hNew;have hstep:U w w':=by
     by_cases hl:late=some i
     ·rw[if_pos hl]at hstep0;exact hstep0
     ·rw[if_neg hl]at hstep0;exact hTU _ _ hstep0
    have hp: ∀t,slot (a.put o.dst v) t=if t=d then v else slot a t:=fun t=>by rw[hd];exact slot_put _ _ _ _ (by rw[hI.size];exact hdl)
    have other: ∀(j:Nat) (oj:Oper) (dj:Nat),(l.setIfInBounds i true).getD j false=true->j≠i->j<m->ops[j]? =some oj->oj.dst=some dj->l.getD j false=true/\dj≠d/\SameFor ops oj (a.put o.dst v) a:=by
     intro j oj dj hj hji hjm hoj hdj;have hj':l.getD j false=true:=by
      simp only[Array.getD_eq_getD_getElem?,Array.getElem?_setIfInBounds]at hj⊢;rw[if_neg (fun e=>hji e.symm)]at hj;exact hj
     refine⟨hj',fun e=>huniq j hjm hji oj hoj (by rw[hdj,e]),fun t ht=> ?_⟩;rw[hp];by_cases htd:t=d
     ·subst htd;obtain⟨oj2,dj2,hoj2,_,_,_,_,_,hlook2⟩:=ok_free hok hjm;rw[hoj]at hoj2;injection hoj2 with hoj2;subst hoj2;have:=hC j i hj' (hlook2 i him o t ho hd ht);simp only[]at this;rw[hlf i hilt,h1]at this
      cases this
     ·rw[if_neg htd]
    refine ih _ _ _ ?_ (by simpa using hl) ?_ hC' ⟨hTt _ _ _ hI.step hstep,?_,by rw[size_put,hI.size],by rw[defers_put,hI.defers],?_,?_,?_,?_⟩
    ·have:=unl_set l i h1 m;rw[if_pos him]at this;omega
    ·intro j hj hmj;rw[getD_set _ _ _ (by omega),if_neg (by omega)];exact hm j hj hmj
    ·intro hE;have hni:late≠some i:=fun e=>hE i e (by simp[Array.getD_eq_getD_getElem?,hl,hilt]);rw[if_neg hni]at hstep0;refine hTT _ _ _ (hI.early fun x hx hDx=>hE x hx ?_) hstep0;simp only[Array.getD_eq_getD_getElem?,Array.getElem?_setIfInBounds]at hDx⊢;by_cases hxi:i=x
     ·subst hxi;simp[hl,hilt]
     ·rw[if_neg hxi];exact hDx
    ·intro t ht;rw[hp,if_neg (fun e=>ht i o him ho (by rw[hd,e]))];exact hI.base t ht
    ·intro j oj dj hj hjm hoj hdj;by_cases hji:j=i
     ·subst hji;rw[ho]at hoj;injection hoj with hoj;subst hoj;rw[hd]at hdj;injection hdj with hdj;subst hdj;exact hOk
     ·obtain⟨hj',hne,hsame⟩:=other j oj dj hj hji hjm hoj hdj;obtain⟨oj2,_,hoj2,_,_,hsel2,_,_⟩:=ok_free hok hjm;rw[hoj]at hoj2;injection hoj2 with hoj2;subst hoj2;have hok0:=hI.ok j oj dj hj' hjm hoj hdj;unfold OkAt at hok0⊢;rw[hsame.wanted (size_put _ _ _),hsame.exec hsel2,hp,if_neg hne];exact hok0
    ·intro j oj dj hj hjm hoj hdj hwj Sh F ht;rw[hp];by_cases hji:j=i
     ·subst hji;rw[ho]at hoj;injection hoj with hoj;subst hoj;rw[hd]at hdj;injection hdj with hdj;subst hdj;rw[if_pos rfl];have hself:SameFor ops o (a.put o.dst v) a:=fun t ht'=>by
       rw[hp,if_neg];intro e;subst e;have:=hdeps j (hlook j him o t ho hd ht');rw[hlf j hilt,h1]at this
       cases this
      exact hFact (by rw[<-hself.wanted (size_put _ _ _)];exact hwj) Sh F ht
     ·obtain⟨hj',hne,hsame⟩:=other j oj dj hj hji hjm hoj hdj;rw[if_neg hne];have hF:=hI.fact j oj dj hj' hjm hoj hdj (by rw[<-hsame.wanted (size_put _ _ _)];exact hwj) Sh F ht;by_cases hl:late=some i
      ·exact hUs j Sh F (fun e=>hji (by rw[hl]at e;injection e with e;exact e.symm)) ht _ _ _ hF hstep
      ·rw[if_neg hl]at hstep0;exact hTs j Sh F ht _ _ _ hF hstep0
    ·intro j k oj ok dj dk hj hk hjm hkm hoj hok' hdj hdk hnj hnk hne hwj hwk g hgj hgk;have old: ∀(k:Nat) (ok:Oper) (dk:Nat),(l.setIfInBounds i true).getD k false=true->k≠i->k<m->ops[k]? =some ok->ok.dst=some dk->nw k=true->Region.wanted ok (yielded ops (a.put o.dst v).tmps)=true->
       l.getD k false=true/\Region.wanted ok (yielded ops a.tmps)=true/\slot (a.put o.dst v) dk=slot a dk/\ ∀g,pB (slot a dk)=some g->g<w.heap.size:=fun k ok dk hk hki hkm hok hdk hnk hwk=>by
      obtain⟨hk',hne,hsame⟩:=other k ok dk hk hki hkm hok hdk;have hwk':Region.wanted ok (yielded ops a.tmps)=true:=by rw[<-hsame.wanted (size_put _ _ _)];exact hwk
      refine⟨hk',hwk',by rw[hp,if_neg hne],fun g hg=> ?_⟩;obtain⟨Sh,F,ht,hold⟩:=hNw k hnk;exact hold _ _ (hI.fact k ok dk hk' hkm hok hdk hwk' Sh F ht) g hg
     by_cases hji:j=i
     ·subst hji;rw[ho]at hoj;injection hoj with hoj;subst hoj;rw[hd]at hdj;injection hdj with hdj;subst hdj;rw[hp,if_pos rfl]at hgj;obtain⟨_,_,e1,e2⟩:=old k ok dk hk (fun e=>hne e.symm) hkm hok' hdk hnk hwk;rw[e1]at hgk;have h1:=hNew hnj g hgj;have h2:=e2 g hgk;omega
     ·obtain⟨j1,j2,e1,e2⟩:=old j oj dj hj hji hjm hoj hdj hnj hwj;rw[e1]at hgj;by_cases hki:k=i
      ·subst hki;rw[ho]at hok';injection hok' with hok';subst hok';rw[hd]at hdk;injection hdk with hdk;subst hdk;rw[hp,if_pos rfl]at hgk;have h1:=hNew hnk g hgk;have h2:=e2 g hgj;omega
      ·obtain⟨k1,k2,e3,_⟩:=old k ok dk hk hki hkm hok' hdk hnk hwk;rw[e3]at hgk;exact hI.pair j k oj ok dj dk j1 k1 hjm hkm hoj hok' hdj hdk hnj hnk hne j2 k2 g hgj hgk
   have self: ∀v,SameFor ops o (a.put o.dst v) a:=fun v t ht'=>by
    have hp: ∀t,slot (a.put o.dst v) t=if t=d then v else slot a t:=fun t=>by rw[hd];exact slot_put _ _ _ _ (by rw[hI.size];exact hdl)
    rw[hp,if_neg];intro e;subst e;have:=hdeps i (hlook i him o t ho hd ht');rw[hlf i hilt,h1]at this
    cases this
   have own: ∀v,slot (a.put o.dst v) d=v:=fun v=>by rw[hd,slot_put _ _ _ _ (by rw[hI.size];exact hdl),if_pos rfl]
   obtain⟨_,hs1⟩:=hs
   cases hw:Region.wanted o (yielded ops a.tmps)with
   |true=>
    have hs1:=hs1 (by rw[<-same.wanted hz];exact hw);have ht:=htn i hit;rw[ht]at hs1;obtain⟨v,hv,_⟩:=hs1;refine⟨v,o,ho, .inl ⟨hw,fun w1 hw1=>by rw[same.exec hsel];exact hv w1 hw1⟩,go v w (by split;exact hTU _ _ (hT1 w);exact hT1 w) ⟨fun hf=> ?_,fun _=> ?_⟩ (fun _ Sh F h=>by rw[ht]at h;cases h) (fun hn=>by obtain⟨_,_,h,_⟩:=hNw i hn;rw[ht]at h;cases h)⟩
    ·rw[(self v).wanted (size_put _ _ _),hw]at hf;cases hf
    ·rw[ht];intro w1 hw1;rw[(self v).exec hsel,same.exec hsel,own];exact hv w1 hw1
   |false=>
    have hwf:=hw;refine⟨undef,o,ho, .inr ⟨hw,rfl⟩,go undef w (by split;exact hTU _ _ (hT1 w);exact hT1 w) ⟨fun _=>own undef,fun hf=> ?_⟩ (fun h=>by rw[hwf]at h;cases h) (fun _ g hg=>by cases hg)⟩;rw[(self undef).wanted (size_put _ _ _),hwf]at hf
    cases hf
  |none=>
   refine anyK_none hft ⟨fun hnil=> ?_,fun i hi=> ?_⟩
   ·obtain⟨i,him,hi0,hib⟩:=unl_pos m (l:=l) (by omega);obtain⟨o,d,ho,_⟩:=ok_free hok him
    have:i∈Region.ready .any ops l:=ready_iff.2 ⟨hi0,o,ho,fun e he hbe=>by
     have h1:=ok_lt hok ho e he hbe;rw[hlf _ (by omega)]
     exact hib _ h1⟩
    rw[hnil]at this
    cases this
   ·skip
    obtain⟨h1,o',ho',h2⟩:=ready_iff.1 hi;have hilt:=(Array.getElem?_eq_some_iff.1 ho').1;have hdeps: ∀k,dirB ops i k=true->l.getD k false=true:=fun k hk=>by
     obtain⟨e,he,hb,hon⟩:=(dir_iff ho').1 hk;rw[<-hon];exact h2 e he hb
    have him:i<m:=by
     rcases Nat.lt_or_ge i m with h3|h3
     ·exact h3
     ·exfalso
      obtain⟨j,hj,hj0,hjb⟩:=unl_pos m (l:=l) (by omega);by_cases hjt:j∈pre
      ·obtain⟨oj,dj,hoj,_⟩:=ok_free hok hj
       have hjr:j∈Region.ready .any ops l:=ready_iff.2 ⟨hj0,oj,hoj,fun e he hbe=>by
        have h1:=ok_lt hok hoj e he hbe;rw[hlf _ (by omega)]
        exact hjb _ h1⟩
       exact firstT_none hft j hjt hjr
      ·have h4:=anc_of_deps (D:=fun i=>l.getD i false=true) hC 4 i j hdeps ((ok_tail hok h3 hilt).1 j hj hjt);rw[hlf j (by omega)]at h4;rw[hj0]at h4
       cases h4
    obtain⟨o,d,ho,hd,hdl,hsel,hdef,huniq,hlook⟩:=ok_free hok him;rw[ho]at ho';injection ho' with ho';subst ho';obtain⟨c,Φ,hs,g1,g2,g3,g4,g5⟩:=chain hok hTr h hC hI i (by omega);have hlen:i<(ops.toList.take m).length:=by simp;omega
    have hget:(ops.toList.take m)[i]=o:=by
     have:=(Array.getElem?_eq_some_iff.1 ho).2;simp[this]
    rw[List.drop_eq_getElem_cons hlen,hget]at hs;have same:SameFor ops o a c:=fun t ht=>by
     by_cases hex: ∃(k:Nat) (oi:Oper),k<m/\ops[k]? =some oi/\oi.dst=some t
     ·obtain⟨k,oi,hkm,hoi,hdi⟩:=hex;have hdir:=hlook k hkm oi t hoi hdi ht;have hik:k<i:=by
       obtain⟨e,he,hb,hon⟩:=(dir_iff ho).1 hdir;have:=ok_lt hok ho e he hb;omega
      exact(g4 k oi t hik (hdeps k hdir) hoi hdi).symm
     ·rw[hI.base t (fun i oi him hoi hdi=>hex ⟨i,oi,him,hoi,hdi⟩),g3 t (fun i oi him hoi hdi=>hex ⟨i,oi,him,hoi,hdi⟩)]
    have hz:a.tmps.size=c.tmps.size:=by rw[hI.size,g1]
    have hC':Closed ops (fun j=>(l.setIfInBounds i true).getD j false=true):=fun j k hj hjk=>by
     have set: ∀j,(l.setIfInBounds i true).getD j false=if j=i then true else l.getD j false:=fun j=>by
      simp only[Array.getD_eq_getD_getElem?,Array.getElem?_setIfInBounds];by_cases h:i=j
      ·subst h;simp[hl,hilt]
      ·rw[if_neg h,if_neg (fun e=>h e.symm)]
     simp only[set]at hj⊢;by_cases hji:j=i
     ·subst hji;by_cases hki:k=j
      ·rw[if_pos hki]
      ·rw[if_neg hki];exact hdeps k hjk
     ·rw[if_neg hji]at hj;by_cases hki:k=i
      ·rw[if_pos hki]
      ·rw[if_neg hki];exact hC j k hj hjk
    -- the step: a value v in slot d
    have go: ∀v w',(if late=some i then U w w' else T w w')->OkAt P ops tab U w0 i o d (a.put o.dst v)->(Region.wanted o (yielded ops a.tmps)=true-> ∀Sh F,tab i=some (Sh,F)->F v w')->(nw i=true-> ∀g,pB v=some g->w.heap.size<=g)->
      anyK P ops pre (U w0) WO N (ops.size-m+n) (l.setIfInBounds i true) (a.put o.dst v) w':=by
     intro v w' hstep0 hOk hFact hNew;have hstep:U w w':=by
      by_cases hl:late=some i
      ·rw[if_pos hl]at hstep0;exact hstep0
      ·rw[if_neg hl]at hstep0;exact hTU _ _ hstep0
     have hp: ∀t,slot (a.put o.dst v) t=if t=d then v else slot a t:=fun t=>by rw[hd];exact slot_put _ _ _ _ (by rw[hI.size];exact hdl)
     have other: ∀(j:Nat) (oj:Oper) (dj:Nat),(l.setIfInBounds i true).getD j false=true->j≠i->j<m->ops[j]? =some oj->oj.dst=some dj->l.getD j false=true/\dj≠d/\SameFor ops oj (a.put o.dst v) a:=by
      intro j oj dj hj hji hjm hoj hdj;have hj':l.getD j false=true:=by
       simp only[Array.getD_eq_getD_getElem?,Array.getElem?_setIfInBounds]at hj⊢;rw[if_neg (fun e=>hji e.symm)]at hj;exact hj
      refine⟨hj',fun e=>huniq j hjm hji oj hoj (by rw[hdj,e]),fun t ht=> ?_⟩;rw[hp];by_cases htd:t=d
      ·subst htd;obtain⟨oj2,dj2,hoj2,_,_,_,_,_,hlook2⟩:=ok_free hok hjm;rw[hoj]at hoj2;injection hoj2 with hoj2;subst hoj2;have:=hC j i hj' (hlook2 i him o t ho hd ht);simp only[]at this;rw[hlf i hilt,h1]at this
       cases this
      ·rw[if_neg htd]
     refine ih _ _ _ ?_ (by simpa using hl) ?_ hC' ⟨hTt _ _ _ hI.step hstep,?_,by rw[size_put,hI.size],by rw[defers_put,hI.defers],?_,?_,?_,?_⟩
     ·have:=unl_set l i h1 m;rw[if_pos him]at this;omega
     ·intro j hj hmj;rw[getD_set _ _ _ (by omega),if_neg (by omega)];exact hm j hj hmj
     ·intro hE;have hni:late≠some i:=fun e=>hE i e (by simp[Array.getD_eq_getD_getElem?,hl,hilt]);rw[if_neg hni]at hstep0;refine hTT _ _ _ (hI.early fun x hx hDx=>hE x hx ?_) hstep0;simp only[Array.getD_eq_getD_getElem?,Array.getElem?_setIfInBounds]at hDx⊢;by_cases hxi:i=x
      ·subst hxi;simp[hl,hilt]
      ·rw[if_neg hxi];exact hDx
     ·intro t ht;rw[hp,if_neg (fun e=>ht i o him ho (by rw[hd,e]))];exact hI.base t ht
     ·intro j oj dj hj hjm hoj hdj;by_cases hji:j=i
      ·subst hji;rw[ho]at hoj;injection hoj with hoj;subst hoj;rw[hd]at hdj;injection hdj with hdj;subst hdj;exact hOk
      ·obtain⟨hj',hne,hsame⟩:=other j oj dj hj hji hjm hoj hdj;obtain⟨oj2,_,hoj2,_,_,hsel2,_,_⟩:=ok_free hok hjm;rw[hoj]at hoj2;injection hoj2 with hoj2;subst hoj2;have hok0:=hI.ok j oj dj hj' hjm hoj hdj;unfold OkAt at hok0⊢;rw[hsame.wanted (size_put _ _ _),hsame.exec hsel2,hp,if_neg hne];exact hok0
     ·intro j oj dj hj hjm hoj hdj hwj Sh F ht;rw[hp];by_cases hji:j=i
      ·subst hji;rw[ho]at hoj;injection hoj with hoj;subst hoj;rw[hd]at hdj;injection hdj with hdj;subst hdj;rw[if_pos rfl];have hself:SameFor ops o (a.put o.dst v) a:=fun t ht'=>by
        rw[hp,if_neg];intro e;subst e;have:=hdeps j (hlook j him o t ho hd ht');rw[hlf j hilt,h1]at this
        cases this
       exact hFact (by rw[<-hself.wanted (size_put _ _ _)];exact hwj) Sh F ht
      ·obtain⟨hj',hne,hsame⟩:=other j oj dj hj hji hjm hoj hdj;rw[if_neg hne];have hF:=hI.fact j oj dj hj' hjm hoj hdj (by rw[<-hsame.wanted (size_put _ _ _)];exact hwj) Sh F ht;by_cases hl:late=some i
       ·exact hUs j Sh F (fun e=>hji (by rw[hl]at e;injection e with e;exact e.symm)) ht _ _ _ hF hstep
       ·rw[if_neg hl]at hstep0;exact hTs j Sh F ht _ _ _ hF hstep0
     ·intro j k oj ok dj dk hj hk hjm hkm hoj hok' hdj hdk hnj hnk hne hwj hwk g hgj hgk;have old: ∀(k:Nat) (ok:Oper) (dk:Nat),(l.setIfInBounds i true).getD k false=true->k≠i->k<m->ops[k]? =some ok->ok.dst=some dk->nw k=true->Region.wanted ok (yielded ops (a.put o.dst v).tmps)=true->
        l.getD k false=true/\Region.wanted ok (yielded ops a.tmps)=true/\slot (a.put o.dst v) dk=slot a dk/\ ∀g,pB (slot a dk)=some g->g<w.heap.size:=fun k ok dk hk hki hkm hok hdk hnk hwk=>by
       obtain⟨hk',hne,hsame⟩:=other k ok dk hk hki hkm hok hdk;have hwk':Region.wanted ok (yielded ops a.tmps)=true:=by rw[<-hsame.wanted (size_put _ _ _)];exact hwk
       refine⟨hk',hwk',by rw[hp,if_neg hne],fun g hg=> ?_⟩;obtain⟨Sh,F,ht,hold⟩:=hNw k hnk;exact hold _ _ (hI.fact k ok dk hk' hkm hok hdk hwk' Sh F ht) g hg
      by_cases hji:j=i
      ·subst hji;rw[ho]at hoj;injection hoj with hoj;subst hoj;rw[hd]at hdj;injection hdj with hdj;subst hdj;rw[hp,if_pos rfl]at hgj;obtain⟨_,_,e1,e2⟩:=old k ok dk hk (fun e=>hne e.symm) hkm hok' hdk hnk hwk;rw[e1]at hgk;have h1:=hNew hnj g hgj;have h2:=e2 g hgk;omega
      ·obtain⟨j1,j2,e1,e2⟩:=old j oj dj hj hji hjm hoj hdj hnj hwj;rw[e1]at hgj;by_cases hki:k=i
       ·subst hki;rw[ho]at hok';injection hok' with hok';subst hok';rw[hd]at hdk;injection hdk with hdk;subst hdk;rw[hp,if_pos rfl]at hgk;have h1:=hNew hnk g hgk;have h2:=e2 g hgj;omega
       ·obtain⟨k1,k2,e3,_⟩:=old k ok dk hk hki hkm hok' hdk hnk hwk;rw[e3]at hgk;exact hI.pair j k oj ok dj dk j1 k1 hjm hkm hoj hok' hdj hdk hnj hnk hne j2 k2 g hgj hgk
    have self: ∀v,SameFor ops o (a.put o.dst v) a:=fun v t ht'=>by
     have hp: ∀t,slot (a.put o.dst v) t=if t=d then v else slot a t:=fun t=>by rw[hd];exact slot_put _ _ _ _ (by rw[hI.size];exact hdl)
     rw[hp,if_neg];intro e;subst e;have:=hdeps i (hlook i him o t ho hd ht');rw[hlf i hilt,h1]at this
     cases this
    have own: ∀v,slot (a.put o.dst v) d=v:=fun v=>by rw[hd,slot_put _ _ _ _ (by rw[hI.size];exact hdl),if_pos rfl]
    obtain⟨_,hs1⟩:=hs
    cases hw:Region.wanted o (yielded ops a.tmps)with
    |true=>
     have hs1:=hs1 (by rw[<-same.wanted hz];exact hw);refine hW.run ho hw hdef ?_
     cases ht:tab i with
     |none=>
      rw[ht]at hs1;obtain⟨v,hv,_⟩:=hs1;unfold Oper.wp;rw[same.exec hsel,hv w hI.step];simp only[Oper.upon];refine⟨hI.step,go v w (by split;exact hTU _ _ (hT1 w);exact hT1 w) ⟨fun hf=> ?_,fun _=> ?_⟩ (fun _ Sh F h=>by rw[ht]at h;cases h) (fun hn=>by obtain⟨_,_,h,_⟩:=hNw i hn;rw[ht]at h;cases h)⟩
      ·rw[(self v).wanted (size_put _ _ _),hw]at hf;cases hf
      ·rw[ht];intro w1 hw1;rw[(self v).exec hsel,same.exec hsel,own];exact hv w1 hw1
     |some sf=>
      obtain⟨Sh,F⟩:=sf;rw[ht]at hs1;obtain⟨_,hy,_⟩:=hs1;refine Yl.to (c:=c) hd (by rw[g1];exact hdl) (same.exec hsel) (hy w (by split;exact hI.early (fun x hx hDx=>by rename_i hli;rw[hli]at hx;injection hx with hx;subst hx;rw[hlf i hilt,h1]at hDx;cases hDx);exact hI.step) fun p hp ha=> ?_) ?_
      ·obtain⟨hlt,op,dp,Sh',F',hop,hdp,htp,hF,hwp⟩:=g5 p hp;have hDp:l.getD p.1 false=true:=anc_of_deps (D:=fun i=>l.getD i false=true) hC f i p.1 hdeps ha;rw[hF,g4 p.1 op dp hlt hDp hop hdp];exact hI.fact p.1 op dp hDp (by omega) hop hdp (hwp hDp) Sh' F' htp
      ·rintro v w' ⟨hst,hSh,hF,hnew⟩;refine⟨(hTt _ _ _ hI.step (by by_cases hl:late=some i;rw[if_pos hl]at hst;exact hst;rw[if_neg hl]at hst;exact hTU _ _ hst)),go v w' hst ⟨fun hf=> ?_,fun _=> ?_⟩ (fun _ Sh' F' h=> ?_) hnew⟩
       ·rw[(self v).wanted (size_put _ _ _),hw]at hf;cases hf
       ·rw[ht,own];exact hSh
       ·rw[ht]at h;injection h with h;injection h with e1 e2;subst e2;exact hF
    |false=>
     have hwf:=hw;refine hW.skip ho hw (hI.step) ?_;refine go undef w (by split;exact hTU _ _ (hT1 w);exact hT1 w) ⟨fun _=>own undef,fun hf=> ?_⟩ (fun h=>by rw[hwf]at h;cases h) (fun _ g hg=>by cases hg);rw[(self undef).wanted (size_put _ _ _),hwf]at hf
     cases hf
end
variable {Q:Exit->Act->World->Prop} {S:World->Prop}
theorem anyK_held {tk:List Nat} (hns:Region.noSelect ops=true) (htk:tkB ops tk m=true) (hQ: ∀c a w,¬Q (.panic c) a w): ∀(fuel:Nat) (l:Array Bool) (a:Act) (w:World),S w->Closed ops (fun i=>l.getD i false=true)->l.size=ops.size->
  anyK P ops tk S (WOH P ops Q S) (Q .normal) fuel l a w->wpAnyH P .any ops Q S fuel l a w
 |0,_,_,_,_,_,_,h=>h
 |fuel+1,l,a,w,hS,hC,hl,h=>by
  have hset: ∀i,i∈Region.ready .any ops l->Closed ops (fun j=>(l.setIfInBounds i true).getD j false=true):=fun i hi j k hj hjk=>by
   obtain⟨_,o,ho,h2⟩:=ready_iff.1 hi;have hilt:=(Array.getElem?_eq_some_iff.1 ho).1;have set: ∀j,(l.setIfInBounds i true).getD j false=if j=i then true else l.getD j false:=fun j=>by
    simp only[Array.getD_eq_getD_getElem?,Array.getElem?_setIfInBounds];by_cases h:i=j
    ·subst h;simp[hl,hilt]
    ·rw[if_neg h,if_neg (fun e=>h e.symm)]
   simp only[set]at hj⊢;by_cases hki:k=i
   ·rw[if_pos hki]
   ·rw[if_neg hki];by_cases hji:j=i
    ·subst hji;obtain⟨e,he,hb,hon⟩:=(dir_iff ho).1 hjk;rw[<-hon];exact h2 e he hb
    ·rw[if_neg hji]at hj;exact hC j k hj hjk
  cases hft:firstT ops tk l with
  |some i=>
   simp only[anyK,hft]at h;obtain⟨v,o,ho,hy,hr⟩:=h;obtain⟨hit,hi⟩:=firstT_some hft;refine wpAnyH_first ho (Region.noSelect_spec hns) (fun c a w h=>absurd h (hQ c _ _)) fuel l a w ?_ hi hy hS (anyK_held hns htk hQ fuel _ _ _ hS (hset i hi) (by simpa using hl) hr);intro j oj hoj hji hun hno;refine tkB_apart htk hit ho hoj hji ?_ ?_
   ·rw[Bool.eq_false_iff];intro hd;obtain⟨e,he,hb,hon⟩:=(dir_iff hoj).1 hd;exact hno e he hb hon
   ·rw[Bool.eq_false_iff];intro ha;obtain⟨_,o',ho',h2⟩:=ready_iff.1 hi
    have hd:=anc_of_deps (D:=fun i=>l.getD i false=true) hC 4 i j (fun k hk=>by
     obtain⟨e,he,hb,hon⟩:=(dir_iff ho').1 hk
     rw[<-hon];exact h2 e he hb) ha
    have hjl:j<l.size:=by rw[hl];exact(Array.getElem?_eq_some_iff.1 hoj).1
    simp only[Array.getD_eq_getD_getElem?,Array.getElem?_eq_getElem hjl,Option.getD_some]at hd hun;rw[hd]at hun
    cases hun
  |none=>
   simp only[anyK,hft]at h;refine⟨h.1,fun i hi=>wpOp_mono (fun a' w' hk=>⟨hk.1,anyK_held hns htk hQ fuel _ a' w' hk.1 (hset i hi) (by simpa using hl) hk.2⟩) (h.2 i hi)⟩
theorem wp_region_take {id:Nat} {a:Act} {w:World} (m f:Nat) (l:List Ent) (ns tk:List Nat) (hm:P.follows .mixedOrders=true) (hok:okP tk ops m a.tmps.size=true) (htk:tkB ops tk m=true) (hns:Region.noSelect ops=true) (htn:(tk.all fun j=>(tabOf l j).isNone)=true) (hs:stabL Ext l)
  (hn: ∀i,ns.contains i=true-> ∃Sh F,tabOf l i=some (Sh,F)/\ ∀v w,F v w-> ∀g,pB v=some g->g<w.heap.size)
  (h:SeqW P ops f (tabOf l) none (fun i=>ns.contains i) Ext Ext w.drew (fun a Φ=> ∀w',Ext w.drew w'->(∀p∈Φ,p.2 w')->PairAt ops m (fun i=>ns.contains i) (fun _=>True) a->tailS P ops (Q .normal) (Ext w.drew) (ops.toList.drop m) a w') (ops.toList.take m) 0 a []):(Code.region id ops true).wp P Q a w:=by
 refine Code.wp_mono OnlyNormal.imp (wp_region_held (S:=Ext w.drew) hm ?_);have hmle:=ok_le hok;have h0: ∀i,(Array.replicate ops.size false).getD i false=false:=fun i=>by
  simp only[Array.getD_eq_getD_getElem?,Array.getElem?_replicate];split<;>rfl
 have h0': ∀i,¬(Array.replicate ops.size false).getD i false=true:=fun i h=>by rw[h0]at h;cases h
 have hC0:Closed ops (fun i=>(Array.replicate ops.size false).getD i false=true):=fun i j hi=>absurd hi (h0' i);have hu:unl m (Array.replicate ops.size false)=m:=by
  have: ∀k,k<=ops.size->unl k (Array.replicate ops.size false)=k:=by
   intro k
   induction k with
   |zero=>intro _;rfl
   |succ k ih=>
    intro hk;rw[unl_succ,ih (by omega),if_pos];simp[Array.getD_eq_getD_getElem?,show k<ops.size from by omega]
  exact this m hmle
 refine anyK_held (Q:=OnlyNormal Q) hns htk (fun c a w h=>h) _ _ _ _ (Ext.refl _) hC0 (by simp) ?_
 have:=main_anyK (a0:=a) (pre:=tk) (f:=f) htk (fun j hj=>by
   have:=List.all_eq_true.1 htn j hj
   simpa using this) (stepOk_held (P:=P) (ops:=ops) (Q:=OnlyNormal Q) (S:=Ext w.drew)) hok (T:=Ext) (U:=Ext) (w0:=w.drew) (tab:=tabOf l) (late:=none) (nw:=fun i=>ns.contains i) (N:=OnlyNormal Q .normal) (Ext.refl _) (fun _ _ _=>Ext.trans) (fun _ _ h=>h) (fun _ _ _=>Ext.trans)
   hs.out (fun i Sh F _=>hs.out i Sh F) Ext.refl hn
   (SeqW.fin (fun a Φ h w' h1 h2 h3=>tailG_held _ _ _ _ (by omega) (h w' h1 h2 h3)) _ _ _ _ h) m (Array.replicate ops.size false) a w.drew hu.symm (by simp) (fun i hi _=>by simp[Array.getD_eq_getD_getElem?,hi]) hC0
   ⟨Ext.refl _,fun _=>Ext.refl _,rfl,rfl,fun _ _=>rfl,fun i o d hi=>absurd hi (h0' i),fun i o d hi=>absurd hi (h0' i),fun i j oi oj di dj hi=>absurd hi (h0' i)⟩
 rw[show ops.size-m+m=ops.size from by omega]at this;exact this
end
end Go.Proofs.YtelplgkppalmfaaGreatDoor
