/-
  Parts of the proof: RafI RafSk RafJ RafK.
-/
import Derived.Test.YtelplgkppalmfaaGreatDoorPs00
import Derived.Test.YtelplgkppalmfaaGreatDoorPs33
import Derived.Test.YtelplgkppalmfaaGreatDoorPs34
set_option maxRecDepth 100000
set_option maxHeartbeats 8000000
set_option linter.unusedVariables false
set_option linter.unusedSimpArgs false
namespace Go.Proofs.YtelplgkppalmfaaGreatDoor
open Go.Proofs.Tryz
section
open Go.RowKit
def vM (t:bB):Array Value:= #[.int .i64 t.k, .string (ae t.t), .int .i64 t.v, .int .i64 t.f]
theorem uV {w W:World} {g pt:Nat} {s:List UInt8} {ts:List bB} {τ:RS} {z0 z1 z2 z3:Value} {C:Array Value} {t2:TypeId} (a b c d:Value) (hC:lu w g w.heap.size pt 62 t2 #[z0,z1,z2,z3] C W) (hQ:QA W g s ts τ) (hg:g<w.heap.size):
  (∀i,(W.setCells w.heap.size 0 [a,b,c,d]).cell? ⟨w.heap.size,i,none⟩=(#[a,b,c,d]:Array Value)[i]?)/\QA (W.setCells w.heap.size 0 [a,b,c,d]) g s ts τ/\w.grownBy (W.setCells w.heap.size 0 [a,b,c,d]) (some g):=by
 have hc:=bG w.heap.size [a,b,c,d] 0 W;have hb:=(((hC.b1.set 0 a).set 1 b).set 2 c).set 3 d;exact⟨fun i=>by have:=hb.cell i;simpa[World.setCells]using this,hQ.grown hc (fun k e=>by injection e with e;omega),bX hC.gr hc (ag _)⟩
theorem j7 (g:Nat) (s:List UInt8) (ts:List bB) (σ:RS) (kd:Int) (hkd:kd≠0) (w:World) (h:QA w g s ts σ):Calls prog 69 #[.pointer (some ⟨g,0,none⟩), .int .i64 kd] w fun e w'=>e= .returned (.agg (vM (σ.take s.length kd).1))/\QA w' g s ts (σ.take s.length kd).2/\w.grownBy w' (some g):=by
 have HX0:=G (O w (.cells #[.int .i64 0, .string ⟨#[]⟩, .int .i64 0, .int .i64 0] 62));have HB0:=G (ai w 62 #[.int .i64 0, .string ⟨#[]⟩, .int .i64 0, .int .i64 0]);have HP:=G h;have hgl:=h.lt;by_cases hk:σ.hd.k=kd
 ·obtain⟨⟨k,tx,v,fr⟩,r,rfl⟩:=RS.hd_cons (σ:=σ) (by rw[hk];exact hkd);obtain rfl:k=kd:=hk;have HR:=G (show(RS.live (⟨k,tx,v,fr⟩::r)).take s.length k=(⟨k,tx,v,fr⟩, .live r)from by unfold RS.take;rw[if_pos (show(RS.live (⟨k,tx,v,fr⟩::r)).hd.k=k from rfl)];rfl);have HN:=G (eZ g s ts _ _ (h.ext HX0.out));have hkk:(k !=k)=false:=by simp
  clear h hkd;simp only[RS.hd,bV]at HN;go_enter func69,ntmps69;go_wp2_with (go_at_call 70;refine HN.out.mono ?_;rintro e w1 ⟨rfl,hE⟩;have hpt:w.heap.size<w1.heap.size:=(by have:=HB0.out.lt;have:=bJ hE;omega);have hptn:w1.heap.size≠w.heap.size:=(by omega);have hE1:=hE.alloc' (.cells #[.int .i64 k, .string (ae tx), .int .i64 v, .int .i64 fr] 62);have hC1:lu w g w.heap.size w1.heap.size 62 62 #[.int .i64 0, .string ⟨#[]⟩, .int .i64 0, .int .i64 0] #[.int .i64 k, .string (ae tx), .int .i64 v, .int .i64 fr] _:=⟨(HX0.out.trans hE1).grownBy _,HB0.out.ext hE1,ai w1 62 #[.int .i64 k, .string (ae tx), .int .i64 v, .int .i64 fr],by omega,by omega⟩;obtain⟨A,c,nx,hnx,hb,hq,hgs⟩:=((HP.out.ext HX0.out).ext hE1).next;have hbc:=hb.cell;have hbf:=hb.frozen;have hw:wrap64 ((nx:Int)+1)=(nx:Int)+1:=(by simp only[wrap64];omega);have HQ:=G hq;have HC:=G (hC1.st hgs);have htc1:=hC1.b2.cell;have htc:=HC.out.b2.cell;have hrc:=HC.out.b1.cell;have hrf:=HC.out.b1.frozen;clear hE hE1 HN hC1 hb hq hgs);obtain⟨hset,hq,hg⟩:=uV (.int .i64 k) (.string (ae tx)) (.int .i64 v) (.int .i64 fr) HC.out HQ.out hgl;simp only[World.setCells,ak,Nat.reduceAdd]at hset hq hg;exact bodyPost_ret (v:= .agg #[.int .i64 k, .string (ae tx), .int .i64 v, .int .i64 fr]) (by simp[results,results69,go_sem,hset]) rfl ⟨by rw[HR.out];rfl,by rw[HR.out];exact hq,hg⟩
 ·have HR:=G (show σ.take s.length kd=(zT,σ.fail s.length 3)from by unfold RS.take;rw[if_neg hk]);have HN:=G (eZ g s ts _ _ (h.ext HX0.out));obtain⟨⟨k,tx,v,fr⟩,hh⟩: ∃t,σ.hd=t:=⟨_,rfl⟩
  rw[hh]at hk HN;simp only at hk HN;have hkk:(k !=kd)=true:=by rw[bne,beq_eq_false_iff_ne.2 hk];rfl
  clear h hkd;go_enter func69,ntmps69;go_wp2_with (first|(go_at_call 70;refine HN.out.mono ?_;rintro e w1 ⟨rfl,hE⟩;have hpt:w.heap.size<w1.heap.size:=(by have:=HB0.out.lt;have:=bJ hE;omega);have hptn:w1.heap.size≠w.heap.size:=(by omega);have hE1:=hE.alloc' (.cells #[.int .i64 k, .string (ae tx), .int .i64 v, .int .i64 fr] 62);have HC1:=G (show lu w g w.heap.size w1.heap.size 62 62 #[.int .i64 0, .string ⟨#[]⟩, .int .i64 0, .int .i64 0] #[.int .i64 k, .string (ae tx), .int .i64 v, .int .i64 fr] _ from⟨(HX0.out.trans hE1).grownBy _,HB0.out.ext hE1,ai w1 62 #[.int .i64 k, .string (ae tx), .int .i64 v, .int .i64 fr],by omega,by omega⟩);have HP1:=G ((HP.out.ext HX0.out).ext hE1);have htc1:=HC1.out.b2.cell;clear hE hE1 HN)|(go_at_call 34;refine(i_ g s ts σ 3 (by decide) _ HP1.out).mono ?_;rintro e w5 ⟨rfl,h1,h2⟩;have HQ:=G h1;have HC:=G (HC1.out.st h2);clear htc1;have hrc:=HC.out.b1.cell;have hrf:=HC.out.b1.frozen;clear h1 h2 HP1));obtain⟨hset,hq,hg⟩:=uV (.int .i64 0) (.string ⟨#[]⟩) (.int .i64 0) (.int .i64 0) HC.out HQ.out hgl;simp only[World.setCells,ak,Nat.reduceAdd]at hset hq hg;exact bodyPost_ret (v:= .agg #[.int .i64 0, .string ⟨#[]⟩, .int .i64 0, .int .i64 0]) (by simp[results,results69,go_sem,hset]) rfl ⟨by rw[HR.out];rfl,by rw[HR.out];exact hq,hg⟩
section
variable {w0 W W':World} {g pr pv:Nat} {z x:Array Value} {e b l:Value} {ex:List Ex} {bd el:List St}
end
def zX (g:Nat) (s:List UInt8) (ts:List bB) (w:World) (y:St×RS) (e:Ending) (w':World):Prop:=
 w.grownBy w' (some g)/\QA w' g s ts y.2/\ ∃A n c B m d C k i,e= .returned (.agg #[.int .i64 y.1.k, .string (ae y.1.nm), .slice A n c, .slice B m d, .slice C k i])/\
  SV.ok w' (fun b=>w.heap.size<=b) ⟨y.1, .slice A n c, .slice B m d, .slice C k i⟩
def Aj (g:Nat) (s:List UInt8) (ts:List bB) (w:World) (y:List St×RS) (e:Ending) (w':World):Prop:=
 w.grownBy w' (some g)/\QA w' g s ts y.2/\ ∃A n c,e= .returned (.slice A n c)/\cP w' (fun b=>w.heap.size<=b) (.slice A n c) y.1
def kI (f:Nat):Prop:= ∀(σ:RS) (s:List UInt8) (ts:List bB) (w:World) (g:Nat),QA w g s ts σ->(σ.isD=true\/4*σ.size+8<=f)->1<=f->Calls prog 72 #[.pointer (some ⟨g,0,none⟩)] w (Aj g s ts w (cm s.length f σ))
def yg (f:Nat):Prop:= ∀(σ:RS) (s:List UInt8) (ts:List bB) (w:World) (g:Nat),QA w g s ts σ->4*σ.size+7<=f->Calls prog 144 #[.pointer (some ⟨g,0,none⟩)] w (zX g s ts w (nq s.length f σ))
def vD (f:Nat):Prop:= ∀(σ:RS) (s:List UInt8) (ts:List bB) (w:World) (g:Nat),QA w g s ts σ->4*σ.size+7<=f->Calls prog 119 #[.pointer (some ⟨g,0,none⟩)] w (zX g s ts w (dt s.length f σ))
theorem gP.lt {α:Type} {en:Int} {p:List bB->PR α} {q:RS->α×RS} {σ:RS} (hl: ∀l,σ= .live l->gP en (p l) (q (.live l))) (hp: ∀l x r,p l= .ok (x,r)->r.length<l.length) (hd: ∀a b,(q (.dead a b)).2= .dead a b):(q σ).2.isD=true\/(q σ).2.size<σ.size:=by
 cases σ with
 |dead a b=>rw[hd];exact .inl rfl
 |live l=>
  rcases(hl l rfl).ways with⟨a,r,h1,h2,h3⟩|⟨r,m,h1,h2⟩
  ·rw[h3];exact .inr (hp _ _ _ h1)
  ·rw[h2];exact .inl rfl
theorem RS.dead_size {σ:RS} (h:σ.isD=true):σ.size=0:=by
 cases σ with
 |dead a b=>rfl
 |live l=>cases h
theorem wO (en:Int) (f:Nat) (n:Int) (σ:RS) (hf:4*σ.size+2<=f):(br en f n σ).2.isD=true\/(br en f n σ).2.size<σ.size:=
 gP.lt (p:=bT f n) (q:=br en f n) (fun l hl=>by subst hl;exact(rV en f).1 n l hf) (fun _ _ _ h=>(f7 f).1 _ _ _ _ h) (fun a b=>(lB en a b f).1 n)
theorem yH (en:Int) (f:Nat) (σ:RS) (hf:4*σ.size+1<=f):(cm en f σ).2.isD=true\/(cm en f σ).2.size<σ.size:=
 gP.lt (p:=cZ f) (q:=cm en f) (fun l hl=>by subst hl;exact(oQ en f).1 l hf) (fun _ _ _ h=>(iz f).1 _ _ _ h) (fun a b=>iD en a b f)
theorem yF (en:Int) (f:Nat) (σ:RS) (hf:4*σ.size+3<=f):(dt en f σ).2.isD=true\/(dt en f σ).2.size<σ.size:=
 gP.lt (p:=de f) (q:=dt en f) (fun l hl=>by subst hl;exact(oQ en f).2.2.2 l hf) (fun _ _ _ h=>(iz f).2.2.2 _ _ _ h) (fun a b=>(vU en a b f).2)
theorem xa:jw prog 64 66 5 96 (.agg #[.int .i64 0, .string ⟨#[]⟩, .slice none 0 0, .slice none 0 0, .slice none 0 0]):=⟨underlying64,by kernel_rfl,by rfl,by decide⟩
def qM (g:Nat) (w:World):Nat:=match w.cell? ⟨g,4,none⟩with
 |some (.int _ e)=>if e=0 then qN g w+1 else 0
 | _=>0
theorem QA.qM {w:World} {g:Nat} {s:List UInt8} {ts:List bB} {σ:RS} (h:QA w g s ts σ):qM g w=if σ.isD then 0 else σ.size+1:=by
 unfold YtelplgkppalmfaaGreatDoor.qM;rw[h.qN];obtain⟨er,h1,h2⟩:=h.cells;rw[h1];show(if er=0 then σ.size+1 else 0)=_
 cases hd:σ.isD with
 |true=>rw[hd]at h2;rw[if_neg (by simpa using h2)];rfl
 |false=>rw[hd]at h2;rw[if_pos (by simpa using h2)];rfl
end
section
open Go.RowKit
theorem ly (tk tv tf:Int) (tx:List UInt8) (w:World):(Instr.field 62 (.agg #[.int .i64 tk, .string (ae tx), .int .i64 tv, .int .i64 tf]) 1).run prog w= .ok (.string (ae tx)) w:=by kernel_rfl
theorem wX (tk tv tf:Int) (tx:List UInt8) (w:World):(Instr.field 62 (.agg #[.int .i64 tk, .string (ae tx), .int .i64 tv, .int .i64 tf]) 2).run prog w= .ok (.int .i64 tv) w:=by kernel_rfl
theorem i1 {en k:Int} {σ:RS} {t:bB} {τ:RS} (h:σ.take en k=(t,τ)):τ.size<=σ.size:=by
 unfold RS.take at h;split at h
 ·injection h with _ h;rw[<-h];cases σ<;>simp[RS.tail,RS.size]
 ·injection h with _ h;rw[<-h];cases σ<;>simp[RS.fail,RS.size]
structure QK (w:World) (g:Nat) (s:List UInt8) (ts:List bB) (pb:Nat) (pc:Array Value) (sb:Nat) (sc:Array Value) (ty:TypeId) (X:World->Prop) (σ:RS) (W:World):Prop where
 pa:QA W g s ts σ
 gr:w.grownBy W (some g)
 rb:aT W pb ty pc
 sv:aT W sb ty sc
 nn:g<w.heap.size/\w.heap.size<=pb/\pb<=sb
 xx:X W
 hx: ∀k,k=g\/k=sb-> ∀V V':World,V.grownBy V' (some k)->X V->X V'
section
variable {w W W':World} {g pb sb:Nat} {s:List UInt8} {ts:List bB} {pc sc:Array Value} {ty:TypeId} {X:World->Prop} {σ σ':RS}
theorem QK.step (K:QK w g s ts pb pc sb sc ty X σ W) (hP:QA W' g s ts σ') (hG:W.grownBy W' (some g)):QK w g s ts pb pc sb sc ty X σ' W':=
 ⟨hP,ah K.gr hG,K.rb.grown hG (fun e=>by have:=K.nn;injection e with e;omega),K.sv.grown hG (fun e=>by have:=K.nn;injection e with e;omega),K.nn,K.hx _ (.inl rfl) _ _ hG K.xx,K.hx⟩
theorem QK.ext (K:QK w g s ts pb pc sb sc ty X σ W) (hE:al W W'):QK w g s ts pb pc sb sc ty X σ W':=K.step (K.pa.ext hE) (hE.grownBy _)
theorem QK.cells (K:QK w g s ts pb pc sb sc ty X σ W):(∀i,W.cell? ⟨pb,i,none⟩=pc[i]?)/\(∀i,W.frozen? ⟨pb,i,none⟩=false)/\(∀i,W.cell? ⟨sb,i,none⟩=sc[i]?)/\ ∀i,W.frozen? ⟨sb,i,none⟩=false:=
 ⟨K.rb.cell,K.rb.frozen,K.sv.cell,K.sv.frozen⟩
theorem QK.yes (K:QK w g s ts pb pc sb sc ty X σ W) {x:List UInt8} (h:σ.is x=true):Calls prog 31 #[.pointer (some ⟨g,0,none⟩), .string (ae x)] W fun e W'=>e= .returned (.bool true)/\Hid (QK w g s ts pb pc sb sc ty X σ.tail W'):=by
 have:=cD g s ts σ x W K.pa;rw[h]at this;exact this.mono fun e W' hh=>⟨hh.1,G (K.step hh.2.1 hh.2.2)⟩
theorem QK.no (K:QK w g s ts pb pc sb sc ty X σ W) {x:List UInt8} (h:σ.is x=false):Calls prog 31 #[.pointer (some ⟨g,0,none⟩), .string (ae x)] W fun e W'=>e= .returned (.bool false)/\Hid (QK w g s ts pb pc sb sc ty X σ W'):=by
 have:=cD g s ts σ x W K.pa;rw[h]at this;exact this.mono fun e W' hh=>⟨hh.1,G (K.step hh.2.1 hh.2.2)⟩
theorem QK.is (K:QK w g s ts pb pc sb sc ty X σ W) {x:List UInt8} {b:Bool} (h:σ.is x=b):Calls prog 68 #[.pointer (some ⟨g,0,none⟩), .string (ae x)] W fun e W'=>e= .returned (.bool b)/\Hid (QK w g s ts pb pc sb sc ty X σ W'):=by
 have:=gT g s ts σ x W K.pa;rw[h]at this;exact this.mono fun e W' hh=>⟨hh.1,G (K.ext hh.2)⟩
theorem QK.want (K:QK w g s ts pb pc sb sc ty X σ W) (x:List UInt8):Calls prog 71 #[.pointer (some ⟨g,0,none⟩), .string (ae x)] W fun e W'=>e= .returned (.tuple #[])/\Hid (QK w g s ts pb pc sb sc ty X (σ.want s.length x) W'):=
 (eA g s ts σ x W K.pa).mono fun e W' hh=>⟨hh.1,G (K.step hh.2.1 hh.2.2)⟩
theorem QK.take (K:QK w g s ts pb pc sb sc ty X σ W) {k:Int} (hk:k≠0) {tk tv tf:Int} {tx:List UInt8} (h:σ.take s.length k=(⟨tk,tx,tv,tf⟩,σ')):Calls prog 69 #[.pointer (some ⟨g,0,none⟩), .int .i64 k] W fun e W'=>e= .returned (.agg #[.int .i64 tk, .string (ae tx), .int .i64 tv, .int .i64 tf])/\Hid (QK w g s ts pb pc sb sc ty X σ' W'):=by
 have:=j7 g s ts σ k hk W K.pa;rw[h]at this;exact this.mono fun e W' hh=>⟨hh.1,G (K.step hh.2.1 hh.2.2)⟩
theorem QK.with (K:QK w g s ts pb pc sb sc ty X σ W) {Y:World->Prop} (hY:Y W) (hy: ∀k,k=g\/k=sb-> ∀V V':World,V.grownBy V' (some k)->Y V->Y V'):QK w g s ts pb pc sb sc ty (fun V=>X V/\Y V) σ W:=
 ⟨K.pa,K.gr,K.rb,K.sv,K.nn,⟨K.xx,hY⟩,fun k hk V V' hV h=>⟨K.hx k hk V V' hV h.1,hy k hk V V' hV h.2⟩⟩
theorem QK.kp (K:QK w g s ts pb pc sb sc ty X σ W) {k:Nat} (hk:k=g\/k=sb) {V V':World} (hV:V.grownBy V' (some k)):cV (fun b=>sb<b) V V':= .of_grown hV fun b hb e=>by have:=K.nn;injection e with e;omega
theorem QK.expr (K:QK w g s ts pb pc sb sc ty X σ W) {f:Nat} (hE:iM f) (hf:4*σ.size+2<=f) {x:Ex} (h:br s.length f 1 σ=(x,σ')):Calls prog 143 #[.pointer (some ⟨g,0,none⟩), .int .i64 1] W fun e W'=>
  ∃A n c,e= .returned (.agg #[.int .i64 x.k, .string (ae x.op), .string (ae x.nm), .string (ae x.tx), .int .i64 x.v, .slice A n c])/\
   Hid (QK w g s ts pb pc sb sc ty (fun V=>X V/\bZ V (fun b=>sb<b) (.slice (some ⟨W'.heap.size,0,none⟩) 1 1) [x]) σ' (W'.alloc (.cells #[.int .i64 x.k, .string (ae x.op), .string (ae x.nm), .string (ae x.tx), .int .i64 x.v, .slice A n c] 49))):=by
 have hc:=hE 1 σ s ts W g K.pa (by decide) (by decide) hf;rw[h]at hc;refine hc.mono fun e W' hh=> ?_;obtain⟨hG,hQ,A,n,c,rfl,hR⟩:=hh;have hE:=O W' (.cells #[.int .i64 x.k, .string (ae x.op), .string (ae x.nm), .string (ae x.tx), .int .i64 x.v, .slice A n c] 49);have hz:=K.sv.lt;have hz2:=hG.size;exact⟨A,n,c,rfl,G (((K.step hQ hG).ext hE).with (gq (ai W' _ _) (by omega) (hR.keep (.of_ext hE) (fun b hb _=>by omega))) fun k hk V V' hV h=>h.keep (K.kp hk hV) (fun b hb _=>hb))⟩
theorem QK.exprV (K:QK w g s ts pb pc sb sc ty X σ W) {f:Nat} (hE:iM f) (hf:4*σ.size+2<=f) {x:Ex} (h:br s.length f 1 σ=(x,σ')):Calls prog 143 #[.pointer (some ⟨g,0,none⟩), .int .i64 1] W fun e W'=>
  ∃A n c,e= .returned (.agg #[.int .i64 x.k, .string (ae x.op), .string (ae x.nm), .string (ae x.tx), .int .i64 x.v, .slice A n c])/\
   Hid (sb<W'.heap.size/\QK w g s ts pb pc sb sc ty (fun V=>aT V W'.heap.size 49 #[.int .i64 x.k, .string (ae x.op), .string (ae x.nm), .string (ae x.tx), .int .i64 x.v, .slice A n c]/\bZ V (fun b=>sb<b) (.slice A n c) x.args) σ' (W'.alloc (.cells #[.int .i64 x.k, .string (ae x.op), .string (ae x.nm), .string (ae x.tx), .int .i64 x.v, .slice A n c] 49))):=by
 have hc:=hE 1 σ s ts W g K.pa (by decide) (by decide) hf;rw[h]at hc;refine hc.mono fun e W' hh=> ?_;obtain⟨hG,hQ,A,n,c,rfl,hR⟩:=hh;have hE:=O W' (.cells #[.int .i64 x.k, .string (ae x.op), .string (ae x.nm), .string (ae x.tx), .int .i64 x.v, .slice A n c] 49);have hz:=K.sv.lt;have hz2:=hG.size;have k:=(K.step hQ hG).ext hE;exact⟨A,n,c,rfl,G ⟨by omega,k.pa,k.gr,k.rb,k.sv,k.nn,⟨ai W' _ _,hR.keep (.of_ext hE) (fun b hb _=>by omega)⟩,fun k hk V V' hV h=>⟨h.1.grown hV (fun e=>by have:=K.nn;injection e with e;omega),h.2.keep (K.kp hk hV) (fun b hb _=>hb)⟩⟩⟩
theorem QK.block (K:QK w g s ts pb pc sb sc ty X σ W) {f:Nat} (hBl:kI f) (hf:σ.isD=true\/4*σ.size+8<=f) (h1:1<=f) {x:List St} (h:cm s.length f σ=(x,σ')):Calls prog 72 #[.pointer (some ⟨g,0,none⟩)] W fun e W'=>
  ∃A n c,e= .returned (.slice A n c)/\Hid (QK w g s ts pb pc sb sc ty (fun V=>X V/\cP V (fun b=>sb<b) (.slice A n c) x) σ' W'):=by
 have hc:=hBl σ s ts W g K.pa hf h1;rw[h]at hc;refine hc.mono fun e W' hh=> ?_;obtain⟨hG,hQ,A,n,c,rfl,hR⟩:=hh;have hz:=K.sv.lt;exact⟨A,n,c,rfl,G ((K.step hQ hG).with (hR.mono (fun b hb _=>by omega)) fun k hk V V' hV h=>h.keep (K.kp hk hV) (fun b hb _=>hb))⟩
theorem QK.if (K:QK w g s ts pb pc sb sc ty X σ W) {f:Nat} (hI:yg f) (hf:4*σ.size+7<=f) {x:St} (h:nq s.length f σ=(x,σ')):Calls prog 144 #[.pointer (some ⟨g,0,none⟩)] W fun e W'=>
  ∃A n c B m d C i j,e= .returned (.agg #[.int .i64 x.k, .string (ae x.nm), .slice A n c, .slice B m d, .slice C i j])/\Hid (QK w g s ts pb pc sb sc ty (fun V=>X V/\SV.ok V (fun b=>sb<b) ⟨x, .slice A n c, .slice B m d, .slice C i j⟩) σ' W'):=by
 have hc:=hI σ s ts W g K.pa hf;rw[h]at hc;refine hc.mono fun e W' hh=> ?_;obtain⟨hG,hQ,A,n,c,B,m,d,C,i,j,rfl,hV⟩:=hh;have hz:=K.sv.lt;exact⟨A,n,c,B,m,d,C,i,j,rfl,G ((K.step hQ hG).with (hV.keep ⟨ag _,fun _ _ _=>rfl⟩ (fun b hb _=>by omega)) fun k hk V V' hV h=>h.keep (K.kp hk hV) (fun b hb _=>hb))⟩
theorem QK.if1 (K:QK w g s ts pb pc sb sc ty X σ W) {f:Nat} (hI:yg f) (hf:4*σ.size+7<=f) {x:St} (h:nq s.length f σ=(x,σ')):Calls prog 144 #[.pointer (some ⟨g,0,none⟩)] W fun e W'=>
  ∃A n c B m d C i j,e= .returned (.agg #[.int .i64 x.k, .string (ae x.nm), .slice A n c, .slice B m d, .slice C i j])/\Hid (QK w g s ts pb pc sb sc ty (fun V=>X V/\cP V (fun b=>sb<b) (.slice (some ⟨W'.heap.size,0,none⟩) 1 1) [x]) σ' (W'.alloc (.cells #[.int .i64 x.k, .string (ae x.nm), .slice A n c, .slice B m d, .slice C i j] 66))):=by
 refine(K.if hI hf h).mono fun e W' hh=> ?_;obtain⟨A,n,c,B,m,d,C,i,j,rfl,k⟩:=hh;have k:=k.out;have hE:=O W' (.cells #[.int .i64 x.k, .string (ae x.nm), .slice A n c, .slice B m d, .slice C i j] 66);have hz:=k.sv.lt;have k2:=k.ext hE;exact⟨A,n,c,B,m,d,C,i,j,rfl,G ⟨k2.pa,k2.gr,k2.rb,k2.sv,k2.nn,⟨k2.xx.1,cP.one (ai W' _ _) (by omega) (k2.xx.2)⟩,fun k hk V V' hV h=>⟨K.hx k hk V V' hV h.1,h.2.keep (K.kp hk hV) (fun b hb _=>hb)⟩⟩⟩
theorem QK.put5 {z0 z1 z2 z3 z4:Value} (K:QK w g s ts pb pc sb #[z0,z1,z2,z3,z4] ty X σ W) (hb:pb<sb) (a b c d e:Value):QK w g s ts pb pc sb #[a,b,c,d,e] ty X σ (W.setCells sb 0 [a,b,c,d,e]):=by
 have hc:=bG sb [a,b,c,d,e] 0 W;have hn:=K.nn;exact⟨K.pa.grown hc (fun k e=>by injection e with e;omega),bX K.gr hc (by omega),K.rb.grown hc (fun e=>by injection e with e;omega),lO K.sv ..,hn,K.hx _ (.inr rfl) _ _ hc K.xx,K.hx⟩
theorem QK.set (K:QK w g s ts pb pc sb sc ty X σ W) (hb:pb<sb) (i:Nat) (v:Value):QK w g s ts pb pc sb (sc.setIfInBounds i v) ty X σ (W.setCell ⟨sb,i,none⟩ v):=by
 have hc:=cg W sb i v;have hn:=K.nn;exact⟨K.pa.grown hc (fun k e=>by injection e with e;omega),bX K.gr hc (by omega),K.rb.grown hc (fun e=>by injection e with e;omega),K.sv.set i v,hn,K.hx _ (.inr rfl) _ _ hc K.xx,K.hx⟩
theorem QK.one (h:QA w g s ts σ) (cs:Array Value) (ty:TypeId):QK w g s ts w.heap.size cs w.heap.size cs ty (fun _=>True) σ (w.alloc (.cells cs ty)):=
 ⟨h.ext (O w _),(O w _).grownBy _,ai w _ _,ai w _ _,⟨h.lt,ag _,ag _⟩,trivial,fun _ _ _ _ _ _=>trivial⟩
theorem QK.open (K:QK w g s ts pb pc pb pc ty X σ W) (cs:Array Value) {Y:World->Prop} (hY:X W->Y (W.alloc (.cells cs ty))) (hy: ∀k,k=g\/k=W.heap.size-> ∀V V':World,V.grownBy V' (some k)->Y V->Y V'):QK w g s ts pb pc W.heap.size cs ty Y σ (W.alloc (.cells cs ty)):=by
 have hE:=O W (.cells cs ty);have hz:=K.rb.lt;have hn:=K.nn;exact⟨K.pa.ext hE,ah K.gr (hE.grownBy _),K.rb.ext hE,ai W _ _,by omega,hY K.xx,hy⟩
theorem QK.open0 (K:QK w g s ts pb pc pb pc ty X σ W) (cs:Array Value):QK w g s ts pb pc W.heap.size cs ty (fun _=>True) σ (W.alloc (.cells cs ty)):=K.open cs (fun _=>trivial) fun _ _ _ _ _ _=>trivial
theorem QK.openE {e:Value} {xs:List Ex} (K:QK w g s ts w.heap.size pc w.heap.size pc ty (fun V=>True/\bZ V (fun b=>w.heap.size<b) e xs) σ W) (cs:Array Value):
  QK w g s ts w.heap.size pc W.heap.size cs ty (fun V=>bZ V (fun b=>w.heap.size<b/\b≠W.heap.size) e xs) σ (W.alloc (.cells cs ty)):=by
 have hn:=K.nn;exact K.open cs (fun h=>h.2.keep (.of_ext (O W _)) (fun b hb hlt=>⟨hb,by omega⟩)) fun k hk V V' hV h=>h.keep (.of_grown hV fun b hb e=>by injection e with e;omega) (fun b hb _=>hb)
end
theorem QK.fin {w W:World} {g sb:Nat} {s:List UInt8} {ts:List bB} {z0 z1 z2 z3 z4:Value} {sc:Array Value} {X:World->Prop} {τ:RS} (K:QK w g s ts w.heap.size #[z0,z1,z2,z3,z4] sb sc 66 X τ W) {y:St×RS} (x:St) (k:Int) (sn:ByteArray) (A:Option Addr) (n c:Nat) (B:Option Addr) (m d:Nat) (C:Option Addr) (i j:Nat) (hy:y=(x,τ)) (hk:x.k=k) (hn:ae x.nm=sn)
  (hV:X W->SV.ok W (fun b=>w.heap.size<b) ⟨x, .slice A n c, .slice B m d, .slice C i j⟩):
  (∀o,(W.setCells w.heap.size 0 [.int .i64 k, .string sn, .slice A n c, .slice B m d, .slice C i j]).cell? ⟨w.heap.size,o,none⟩=(#[.int .i64 k, .string sn, .slice A n c, .slice B m d, .slice C i j]:Array Value)[o]?)/\
  zX g s ts w y (.returned (.agg #[.int .i64 k, .string sn, .slice A n c, .slice B m d, .slice C i j])) (W.setCells w.heap.size 0 [.int .i64 k, .string sn, .slice A n c, .slice B m d, .slice C i j]):=by
 subst hy hk hn;have hg:=K.nn.1;have hc:=bG w.heap.size [.int .i64 x.k, .string (ae x.nm), .slice A n c, .slice B m d, .slice C i j] 0 W;exact⟨(lO K.rb _ _ _ _ _).cell,bX K.gr hc (ag _),K.pa.grown hc (fun k e=>by injection e with e;omega),A,n,c,B,m,d,C,i,j,rfl,(hV K.xx).keep (.of_grown hc fun b hb e=>by injection e with e;omega) fun b hb _=>aH hb⟩
end
section
open Go.RowKit
theorem qh (f:Nat) (hff:f<=400000) (hS: ∀i,i<=f->vD i):kI (f+1):=by
 intro σ s ts w g h hf _;have HG:=G (eA g s ts σ t_ w h);have hgl:=h.lt;obtain⟨σ1,hw1⟩: ∃τ,σ.want s.length t_=τ:=⟨_,rfl⟩
 have hs1:σ1.isD=true\/4*σ1.size+11<=f/\σ1.size<=100000:=by
  rw[<-hw1]
  cases σ with
  |dead a b=>rw[bF];exact .inl rfl
  |live r=>
   rcases fL s.length t_ r with⟨_,h2,h3⟩|⟨_,h2⟩
   ·rw[h2];refine .inr ?_;rcases hf with hf|hf
    ·cases hf
    ·simp only[RS.size]at hf⊢;omega
   ·rw[h2];exact .inl rfl
 have hz1:σ1.size<=100000:=by
  rcases hs1 with h|h
  ·rw[RS.dead_size h];omega
  ·exact h.2
 obtain⟨y0,hy0⟩: ∃y,ea s.length f [] σ1=y:=⟨_,rfl⟩
 have HR0:=G (show cm s.length (f+1) σ=(y0.1,y0.2.want s.length pF)from by rw[cm,hw1,hy0]);rw[hw1]at HG;clear h hf hw1;go_enter func72,ntmps72;go_wp2_with (go_at_call 71;refine HG.out.mono ?_;rintro e w1 ⟨rfl,h1,h2⟩;have HP1:=G h1;have HG1:=G h2;clear h1 h2 HG)
 go_loopw [3] (fun vo wr=> ∃(k:Nat) (acc:List SV) (τ:RS) (C:Option Addr) (n cap:Nat),vo= .slice C n cap/\acc.length=n/\(τ.isD=true\/4*τ.size+11<=k)/\k<=f/\(n+τ.size<=σ1.size\/τ.isD=true/\n<=σ1.size+1)/\Hid (ea s.length k (acc.map (·.s)) τ=y0)/\Hid (QA wr g s ts τ)/\
  Hid (f8 wr w.heap.size 66 (.slice C n cap) acc)/\Hid (w.grownBy wr (some g))) (fun vo wr=>qM g wr)
 case atStart=>exact⟨f,[],σ1,none,0,0,rfl,rfl,hs1.imp id (·.1),ag _, .inl (by omega),G hy0,HP1,G (nj _ _ _),HG1⟩
 case round=>
  clear HP1 HG1;obtain⟨k,acc,τ,C,n,cap,rfl,hn,hk,hkf,hnl,HRes,HPr,HOr,HGr⟩:=hrel;obtain⟨er,hec,hed⟩:=HPr.out.cells
  cases hd:τ.isD with
  |true=>
   rw[hd]at hed
   have HR:=G (show y0=(acc.map (·.s),τ)from by
    rw[<-HRes.out]
    cases τ with
    |dead a b=>exact kS _ _ _ _ _
    |live l=>cases hd)
   go_wp2_with (first|(go_at_call 71;refine(eA g s ts τ pF _ HPr.out).mono ?_;rintro e w2 ⟨rfl,h1,h2⟩;have HP2:=G h1;have HG2:=G (ah HGr.out h2);have HO2:=G (HOr.out.grown h2 (fun k e=>by injection e with e;omega));clear h1 h2));go_ret;rw[HR0.out,HR.out];exact⟨HG2.out,HP2.out,_,_,_,rfl,HO2.out.rd⟩
  |false=>
   have hk:4*τ.size+11<=k:=hk.elim (fun h => by rw [hd] at h; cases h) (fun h => h)
   have hnl:n+τ.size<=σ1.size:=hnl.elim (fun h => h) (fun h => by rw [hd] at h; cases h.1)
   rw[hd]at hed;obtain⟨k,rfl⟩: ∃k',k=k'+1:=⟨k-1,by omega⟩
   have HSt:=G (show ea s.length (k+1) (acc.map (·.s)) τ=if τ.isD||τ.is pF then(acc.map (·.s),τ)else ea s.length k (acc.map (·.s)++[(dt s.length k τ).1]) (dt s.length k τ).2 from by rw[ea])
   cases hrb:τ.is pF with
   |true=>
    have HR:=G (show y0=(acc.map (·.s),τ)from by rw[<-HRes.out,HSt.out,if_pos (by rw[hrb];simp)]);go_wp2_with (first|(go_at_call 68;refine(gT g s ts τ pF _ HPr.out).mono ?_;rw[hrb];rintro e w2 ⟨rfl,hE⟩;have HP2:=G (HPr.out.ext hE);have HG2:=G (ah HGr.out (hE.grownBy _));have HO2:=G (HOr.out.ext hE);clear hE HPr)|(go_at_call 71;refine(eA g s ts τ pF _ HP2.out).mono ?_;rintro e w3 ⟨rfl,h1,h2⟩;have HP3:=G h1;have HG3:=G (ah HG2.out h2);have HO3:=G (HO2.out.grown h2 (fun k e=>by injection e with e;omega));clear h1 h2));go_ret;rw[HR0.out,HR.out];exact⟨HG3.out,HP3.out,_,_,_,rfl,HO3.out.rd⟩
   |false=>
    have hlt:=yF s.length k τ (by omega);have HSx:=G (hS k (by omega) τ s ts);obtain⟨⟨sx,τ2⟩,hps⟩: ∃y,dt s.length k τ=y:=⟨_,rfl⟩
    rw[hps]at HSx hlt;have HRN:=G (show ea s.length k (acc.map (·.s)++[sx]) τ2=y0 from by rw[<-HRes.out,HSt.out,if_neg (by rw[hrb,hd];simp),hps]);simp only at hlt;clear HRes HSt hps
    go_wp2_with (first
     |(go_at_call 68;refine(gT g s ts τ pF _ HPr.out).mono ?_;rw[hrb];rintro e w2 ⟨rfl,hE⟩;have HP2:=G (HPr.out.ext hE);have HG2:=G (ah HGr.out (hE.grownBy _));have HO2:=G (HOr.out.ext hE);clear hE)
     |(go_at_call 119;refine(HSx.out _ g HP2.out (by omega)).mono ?_;rintro e w3 ⟨hG,hPA,A1,n1,c1,A2,n2,c2,A3,n3,c3,rfl,hV⟩;have hE:=O w3 (.cells #[.int .i64 sx.k, .string (ae sx.nm), .slice A1 n1 c1, .slice A2 n2 c2, .slice A3 n3 c3] 66);have hz2:=HG2.out.size;have hzz:=hG.size;have HG3:=G (ah (ah HG2.out hG) (hE.grownBy (some g)));have HO3:=G ((HO2.out.grown hG (fun k e=>by injection e with e;omega)).ext hE);have hrow:=aJ HO2.out.1;have HV3:=G (hV.keep (.of_ext hE) (Q:=fun b=>w.heap.size<=b/\some b≠Value.ownBlock (.slice C n cap)) (fun b hb _=>⟨by omega,fun e=>by have:=(hrow b e.symm).2;omega⟩));have HP3:=G (hPA.ext hE);have HN3:=G (ai w3 66 #[.int .i64 sx.k, .string (ae sx.nm), .slice A1 n1 c1, .slice A2 n2 c2, .slice A3 n3 c3]);have hrw:=fun k hk=>(hrow k hk).1;clear hG hV hPA hE hrow HO2)
     |(at_builtin;refine cQ xa rfl _ _ rfl w.heap.size _ n (dO acc) rfl (by have:=HO3.out.1;rw[hn]at this;exact this) w3.heap.size (rN ⟨sx, .slice A1 n1 c1, .slice A2 n2 c2, .slice A3 n3 c3⟩) rfl HN3.out rfl (oJ _ _ _ _ _ _ _ _ _ _) (by omega) (by decide) HG3.out.size ?_;intro A' cap' w4 hq1 hq2 hq3;have HO4:=G (HO3.out.snoc HV3.out (by rw[hn];exact hq1) hq2 hq3);have HG4:=G (show w.grownBy w4 (some g)from⟨hq2.os.trans HG3.out.os,hq2.tape.trans HG3.out.tape,hq2.output.trans HG3.out.output,aS HG3.out.size hq2.size,fun i hi hne=>(hq2.block i (an hi HG3.out.size) (fun e=>by have:=hrw i e.symm;omega)).trans (HG3.out.block i hi hne)⟩);have HP4:=G (HP3.out.grown hq2 (fun k e=>by have:=hrw k e;omega));clear hq1 hq2 hq3))
    go_roundw
    case rel=>exact⟨k,acc++[⟨sx, .slice A1 n1 c1, .slice A2 n2 c2, .slice A3 n3 c3⟩],τ2,some ⟨A',0,none⟩,n+1,cap',rfl,by simp[hn],hlt.imp id (fun h=>by omega),by omega,(hlt.elim (fun h=> .inr ⟨h,by omega⟩) (fun h=> .inl (by omega))),G (by simpa using HRN.out),HP4,G (by have:=HO4.out;rw[hn]at this;exact this),HG4⟩
    case measure=>
     rw[HPr.out.qM,HP4.out.qM,hd];rcases hlt with h|h
     ·rw[h];simp
     ·split<;>simp<;>omega
theorem uf (f:Nat) (hE:iM f) (hBl:kI f) (hI:yg f):yg (f+1):=by
 intro σ s ts w g h hf;have hgl:=h.lt;obtain⟨⟨x,σ1⟩,hy1⟩: ∃y,br s.length f 1 σ=y:=⟨_,rfl⟩
 have hl1:=wO s.length f 1 σ (by omega);obtain⟨⟨bd,σ2⟩,hy2⟩: ∃y,cm s.length f σ1=y:=⟨_,rfl⟩
 rw[hy1]at hl1;have hz1:σ1.isD=true\/4*σ1.size+8<=f:=hl1.imp id (fun h=>by simp only at h;omega);have hz1':4*σ1.size+1<=f:=by
  rcases hz1 with h|h
  ·rw[RS.dead_size h];omega
  ·omega
 have hl2:=yH s.length f σ1 hz1';rw[hy2]at hl2;simp only at hl2;have hl2':σ2.isD=true\/σ2.size+2<=σ.size:=by
  rcases hl2 with h|h
  ·exact .inl h
  ·rcases hl1 with h'|h'
   ·simp only at h';rw[RS.dead_size h']at h;omega
   ·simp only at h';exact .inr (by omega)
 have hf1:4*σ.size+2<=f:=by omega
 have HRI:=G (show nq s.length (f+1) σ=if σ2.is nS then(if σ2.tail.is sF then(.mk 4 [] [x] bd [(nq s.length f σ2.tail.tail).1],(nq s.length f σ2.tail.tail).2)else(.mk 4 [] [x] bd (cm s.length f σ2.tail).1,(cm s.length f σ2.tail).2))else(.mk 4 [] [x] bd [],σ2)from by rw[nq,hy1];simp only[hy2]);have K:=G (QK.one h #[.int .i64 0, .string ⟨#[]⟩, .slice none 0 0, .slice none 0 0, .slice none 0 0] 66);obtain⟨hrc,hrf,hsc,hsf⟩:=K.out.cells;clear h;go_enter func144,ntmps144;go_wp2_with (go_at_call 143;refine(K.out.expr hE hf1 hy1).mono ?_;rintro e w1 ⟨A,n,c,rfl,K⟩;have hzo:=K.out.rb.lt;have K:=G (K.out.openE #[.int .i64 4, .string ⟨#[]⟩, .slice (some ⟨w1.heap.size,0,none⟩) 1 1, .slice none 0 0, .slice none 0 0]);rw[aQ]at hzo K;have hpn:w.heap.size≠w1.heap.size+1:=(by omega);have hpm:w1.heap.size+1≠w.heap.size:=(by omega);clear hrc hrf hsc hsf;obtain⟨hrc,hrf,hsc,hsf⟩:=K.out.cells);go_wp2_with (go_at_call 72;refine(K.out.block hBl hz1 (by omega) hy2).mono ?_;rintro e wx ⟨B,m,d,rfl,K⟩;clear hrc hrf hsc hsf;obtain⟨hrc,hrf,hsc,hsf⟩:=K.out.cells;have k:=K.out.set (by omega) 3 (.slice B m d);simp only[World.setCells,ak,Nat.reduceAdd,aw,aN,aO]at k;have K:=G k;clear k)
 cases hel:σ2.is nS with
 |true=>
  have hze:=dm hel;have hlv:σ2.isD=false:=by obtain⟨t,r,rfl⟩:=nh hel;rfl
  have hz3:σ2.size+2<=σ.size:=hl2'.resolve_left (by simp[hlv]);go_wp2_with (go_at_call 31;refine(K.out.yes hel).mono ?_;rintro e wx ⟨rfl,K⟩;clear hrc hrf hsc hsf;obtain⟨hrc,hrf,hsc,hsf⟩:=K.out.cells)
  cases hif:σ2.tail.is sF with
  |true=>
   have hzi:=dm hif;obtain⟨⟨sx,σ3⟩,hy3⟩: ∃y,nq s.length f σ2.tail.tail=y:=⟨_,rfl⟩
   go_wp2_with (go_at_call 31;refine(K.out.yes hif).mono ?_;rintro e wx ⟨rfl,K⟩;clear hrc hrf hsc hsf;obtain⟨hrc,hrf,hsc,hsf⟩:=K.out.cells);go_wp2_with (go_at_call 144;refine(K.out.if1 hI (by omega) hy3).mono ?_;rintro e w5 ⟨A1,n1,c1,A2,n2,c2,A3,n3,c3,rfl,K⟩;clear hrc hrf hsc hsf;obtain⟨hrc,hrf,hsc,hsf⟩:=K.out.cells;have k:=K.out.set (by omega) 4 (.slice (some ⟨w5.heap.size,0,none⟩) 1 1);simp only[World.setCells,ak,Nat.reduceAdd,aw,aN,aO]at k;have K:=G k;clear k);obtain⟨hset,hfin⟩:=K.out.fin (y:=nq s.length (f+1) σ) (.mk 4 [] [x] bd [sx]) 4 ⟨#[]⟩ (some ⟨w1.heap.size,0,none⟩) 1 1 B m d (some ⟨w5.heap.size,0,none⟩) 1 1 (by rw[HRI.out,if_pos hel,if_pos hif,hy3]) rfl rfl (fun h=>⟨h.1.1.mono (fun b hb _=>hb.1),h.1.2.mono (fun b hb _=>by omega),h.2.mono (fun b hb _=>by omega)⟩);simp only[World.setCells,ak,Nat.reduceAdd]at hset hfin;exact bodyPost_ret (v:= .agg #[.int .i64 4, .string ⟨#[]⟩, .slice (some ⟨w1.heap.size,0,none⟩) 1 1, .slice B m d, .slice (some ⟨w5.heap.size,0,none⟩) 1 1]) (by simp[results,results144,go_sem,hset]) rfl hfin
  |false=>
   obtain⟨⟨el,σ3⟩,hy3⟩: ∃y,cm s.length f σ2.tail=y:=⟨_,rfl⟩
   have hN:=hif;go_wp2_with (go_at_call 31;refine(K.out.no hN).mono ?_;rintro e wx ⟨rfl,K⟩;clear hN;clear hrc hrf hsc hsf;obtain⟨hrc,hrf,hsc,hsf⟩:=K.out.cells);go_wp2_with (go_at_call 72;refine(K.out.block hBl (.inr (by omega)) (by omega) hy3).mono ?_;rintro e wx ⟨C,i,j,rfl,K⟩;clear hrc hrf hsc hsf;obtain⟨hrc,hrf,hsc,hsf⟩:=K.out.cells;have k:=K.out.set (by omega) 4 (.slice C i j);simp only[World.setCells,ak,Nat.reduceAdd,aw,aN,aO]at k;have K:=G k;clear k);obtain⟨hset,hfin⟩:=K.out.fin (y:=nq s.length (f+1) σ) (.mk 4 [] [x] bd el) 4 ⟨#[]⟩ (some ⟨w1.heap.size,0,none⟩) 1 1 B m d C i j (by rw[HRI.out,if_pos hel,if_neg (by simp[hif]),hy3]) rfl rfl (fun h=>⟨h.1.1.mono (fun b hb _=>hb.1),h.1.2.mono (fun b hb _=>by omega),h.2.mono (fun b hb _=>by omega)⟩);simp only[World.setCells,ak,Nat.reduceAdd]at hset hfin;exact bodyPost_ret (v:= .agg #[.int .i64 4, .string ⟨#[]⟩, .slice (some ⟨w1.heap.size,0,none⟩) 1 1, .slice B m d, .slice C i j]) (by simp[results,results144,go_sem,hset]) rfl hfin
 |false=>
  have hN:=hel;go_wp2_with (go_at_call 31;refine(K.out.no hN).mono ?_;rintro e wx ⟨rfl,K⟩;clear hN;clear hrc hrf hsc hsf;obtain⟨hrc,hrf,hsc,hsf⟩:=K.out.cells);obtain⟨hset,hfin⟩:=K.out.fin (y:=nq s.length (f+1) σ) (.mk 4 [] [x] bd []) 4 ⟨#[]⟩ (some ⟨w1.heap.size,0,none⟩) 1 1 B m d none 0 0 (by rw[HRI.out,if_neg (by simp[hel])]) rfl rfl (fun h=>⟨h.1.mono (fun b hb _=>hb.1),h.2.mono (fun b hb _=>by omega), .nil _ _⟩);simp only[World.setCells,ak,Nat.reduceAdd]at hset hfin;exact bodyPost_ret (v:= .agg #[.int .i64 4, .string ⟨#[]⟩, .slice (some ⟨w1.heap.size,0,none⟩) 1 1, .slice B m d, .slice none 0 0]) (by simp[results,results144,go_sem,hset]) rfl hfin
end
section
open Go.RowKit
section
variable {w W W':World} {g pb sb:Nat} {s:List UInt8} {ts:List bB} {pc sc:Array Value} {ty:TypeId} {X:World->Prop} {σ σ':RS}
theorem QK.args (K:QK w g s ts pb pc sb sc ty X σ W) {k:Nat} {a:List Ex} {tx:List UInt8} (hk:k+1<=400000) (hf:4*σ.size+3<=k) (h:ef s.length (k+1) σ=(a,σ')):Calls prog 145 #[.pointer (some ⟨g,0,none⟩)] W fun e W'=>
  ∃A n c,e= .returned (.slice A n c)/\Hid (QK w g s ts pb pc sb sc ty (fun V=>X V/\bZ V (fun b=>sb<b) (.slice (some ⟨W'.heap.size,0,none⟩) 1 1) [.mk 5 [] tx [] 0 a]) σ' (W'.alloc (.cells #[.int .i64 5, .string ⟨#[]⟩, .string (ae tx), .string ⟨#[]⟩, .int .i64 0, .slice A n c] 49))):=by
 have hc:=mF k (by omega) (fun i hi=>nU (by omega)) σ s ts W g K.pa (by omega);rw[h]at hc;refine hc.mono fun e W' hh=> ?_;obtain⟨hG,hQ,A,n,c,rfl,hR⟩:=hh;have hE:=O W' (.cells #[.int .i64 5, .string ⟨#[]⟩, .string (ae tx), .string ⟨#[]⟩, .int .i64 0, .slice A n c] 49);have hz:=K.sv.lt;have hz2:=hG.size;exact⟨A,n,c,rfl,G (((K.step hQ hG).ext hE).with (gq (x:= .mk 5 [] tx [] 0 a) (ai W' _ _) (by omega) (hR.keep (.of_ext hE) (fun b hb _=>by omega))) fun k hk V V' hV h=>h.keep (K.kp hk hV) (fun b hb _=>hb))⟩
end
theorem qZ (f:Nat) (hff:f<=400000) (hE:iM f) (hBl:kI f) (hI:yg f):vD (f+1):=by
 intro σ s ts w g h hf;have hgl:=h.lt;have K:=G (QK.one h #[.int .i64 0, .string ⟨#[]⟩, .slice none 0 0, .slice none 0 0, .slice none 0 0] 66);obtain⟨hrc,hrf,hsc,hsf⟩:=K.out.cells;clear h;go_enter func119,ntmps119
 cases hv:σ.is gA with
 |true=>
  have hsz:=dm hv;obtain⟨⟨⟨tk,tx,tv,tf⟩,σ1⟩,hy⟩: ∃y,σ.tail.take s.length 1=y:=⟨_,rfl⟩
  have hs1:=i1 hy;have hfd:=ly tk tv tf tx;go_wp2_with (go_at_call 31;refine(K.out.yes hv).mono ?_;rintro e wx ⟨rfl,K⟩;clear hrc hrf hsc hsf;obtain⟨hrc,hrf,hsc,hsf⟩:=K.out.cells);go_wp2_with (go_at_call 69;refine(K.out.take (by decide) hy).mono ?_;rintro e w2 ⟨rfl,K⟩;have hzo:=K.out.rb.lt;have K:=G (K.out.open0 #[.int .i64 1, .string (ae tx), .slice none 0 0, .slice none 0 0, .slice none 0 0]);have hpn:w.heap.size≠w2.heap.size:=(by omega);have hpm:w2.heap.size≠w.heap.size:=(by omega);clear hrc hrf hsc hsf;obtain⟨hrc,hrf,hsc,hsf⟩:=K.out.cells)
  cases he:σ1.is l9 with
  |true=>
   have hz:=dm he;obtain⟨⟨x,τ⟩,hx⟩: ∃y,br s.length f 1 σ1.tail=y:=⟨_,rfl⟩
   have hf1:4*σ1.tail.size+2<=f:=by omega
   go_wp2_with (go_at_call 31;refine(K.out.yes he).mono ?_;rintro e wx ⟨rfl,K⟩;clear hrc hrf hsc hsf;obtain⟨hrc,hrf,hsc,hsf⟩:=K.out.cells);go_wp2_with (go_at_call 143;refine(K.out.expr hE hf1 hx).mono ?_;rintro e w3 ⟨A,n,c,rfl,K⟩;clear hrc hrf hsc hsf;obtain⟨hrc,hrf,hsc,hsf⟩:=K.out.cells;have k:=K.out.set (by omega) 2 (.slice (some ⟨w3.heap.size,0,none⟩) 1 1);simp only[World.setCells,ak,Nat.reduceAdd,aw,aN,aO]at k;have K:=G k;clear k);have hN:=G (K.out.want iu);go_wp2_with (go_at_call 71;refine hN.out.mono ?_;clear hN;rintro e wx ⟨rfl,K⟩;clear hrc hrf hsc hsf;obtain⟨hrc,hrf,hsc,hsf⟩:=K.out.cells);obtain⟨hset,hfin⟩:=K.out.fin (y:=dt s.length (f+1) σ) (.mk 1 tx [x] [] []) 1 (ae tx) (some ⟨w3.heap.size,0,none⟩) 1 1 none 0 0 none 0 0 (by rw[dt,if_pos hv,hy,if_pos he,hx]) rfl rfl (fun h=>⟨h.2.mono (fun b hb _=>by omega), .nil _ _, .nil _ _⟩);simp only[World.setCells,ak,Nat.reduceAdd]at hset hfin;exact bodyPost_ret (v:= .agg #[.int .i64 1, .string (ae tx), .slice (some ⟨w3.heap.size,0,none⟩) 1 1, .slice none 0 0, .slice none 0 0]) (by simp[results,results119,go_sem,hset]) rfl hfin
  |false=>
   have hN:=he;go_wp2_with (go_at_call 31;refine(K.out.no hN).mono ?_;rintro e wx ⟨rfl,K⟩;clear hN;clear hrc hrf hsc hsf;obtain⟨hrc,hrf,hsc,hsf⟩:=K.out.cells);have hN:=G (K.out.want iu);go_wp2_with (go_at_call 71;refine hN.out.mono ?_;clear hN;rintro e wx ⟨rfl,K⟩;clear hrc hrf hsc hsf;obtain⟨hrc,hrf,hsc,hsf⟩:=K.out.cells);obtain⟨hset,hfin⟩:=K.out.fin (y:=dt s.length (f+1) σ) (.mk 1 tx [] [] []) 1 (ae tx) none 0 0 none 0 0 none 0 0 (by rw[dt,if_pos hv,hy,if_neg (by simp[he])]) rfl rfl (fun _=>⟨.nil _ _, .nil _ _, .nil _ _⟩);simp only[World.setCells,ak,Nat.reduceAdd]at hset hfin;exact bodyPost_ret (v:= .agg #[.int .i64 1, .string (ae tx), .slice none 0 0, .slice none 0 0, .slice none 0 0]) (by simp[results,results119,go_sem,hset]) rfl hfin
 |false=>
  have hN:=hv;go_wp2_with (go_at_call 31;refine(K.out.no hN).mono ?_;rintro e wx ⟨rfl,K⟩;clear hN;clear hrc hrf hsc hsf;obtain⟨hrc,hrf,hsc,hsf⟩:=K.out.cells)
  cases hi:σ.is sF with
  |true=>
   have hsz:=dm hi;obtain⟨⟨sx,τ⟩,hx⟩: ∃y,nq s.length f σ.tail=y:=⟨_,rfl⟩
   go_wp2_with (go_at_call 31;refine(K.out.yes hi).mono ?_;rintro e wx ⟨rfl,K⟩;clear hrc hrf hsc hsf;obtain⟨hrc,hrf,hsc,hsf⟩:=K.out.cells);go_wp2_with (go_at_call 144;refine(K.out.if hI (by omega) hx).mono ?_;rintro e wx ⟨A1,n1,c1,A2,n2,c2,A3,n3,c3,rfl,K⟩;clear hrc hrf hsc hsf;obtain⟨hrc,hrf,hsc,hsf⟩:=K.out.cells);obtain⟨hset,hfin⟩:=K.out.fin (y:=dt s.length (f+1) σ) (sx) sx.k (ae sx.nm) A1 n1 c1 A2 n2 c2 A3 n3 c3 (by rw[dt,if_neg (by simp[hv]),if_pos hi,hx]) rfl rfl (fun h=>h.2);simp only[World.setCells,ak,Nat.reduceAdd]at hset hfin;exact bodyPost_ret (v:= .agg #[.int .i64 sx.k, .string (ae sx.nm), .slice A1 n1 c1, .slice A2 n2 c2, .slice A3 n3 c3]) (by simp[results,results119,go_sem,hset]) rfl hfin
  |false=>
   have hN:=hi;go_wp2_with (go_at_call 31;refine(K.out.no hN).mono ?_;rintro e wx ⟨rfl,K⟩;clear hN;clear hrc hrf hsc hsf;obtain⟨hrc,hrf,hsc,hsf⟩:=K.out.cells)
   cases hw:σ.is lz with
   |true=>
    have hsz:=dm hw;obtain⟨⟨x,τ⟩,hx⟩: ∃y,br s.length f 1 σ.tail=y:=⟨_,rfl⟩
    have hf1:4*σ.tail.size+2<=f:=by omega
    have hl1:=wO s.length f 1 σ.tail hf1;rw[hx]at hl1;have hz1:τ.isD=true\/4*τ.size+8<=f:=hl1.imp id (fun h=>by simp only at h;omega);obtain⟨⟨bd,τ2⟩,hb⟩: ∃y,cm s.length f τ=y:=⟨_,rfl⟩
    go_wp2_with (go_at_call 31;refine(K.out.yes hw).mono ?_;rintro e wx ⟨rfl,K⟩;clear hrc hrf hsc hsf;obtain⟨hrc,hrf,hsc,hsf⟩:=K.out.cells);go_wp2_with (go_at_call 143;refine(K.out.expr hE hf1 hx).mono ?_;rintro e w3 ⟨A,n,c,rfl,K⟩;clear hrc hrf hsc hsf;obtain⟨hrc,hrf,hsc,hsf⟩:=K.out.cells;have hzo:=K.out.rb.lt;have K:=G (K.out.openE #[.int .i64 5, .string ⟨#[]⟩, .slice (some ⟨w3.heap.size,0,none⟩) 1 1, .slice none 0 0, .slice none 0 0]);rw[aQ]at hzo K;have hpn:w.heap.size≠w3.heap.size+1:=(by omega);have hpm:w3.heap.size+1≠w.heap.size:=(by omega);clear hrc hrf hsc hsf;obtain⟨hrc,hrf,hsc,hsf⟩:=K.out.cells);go_wp2_with (go_at_call 72;refine(K.out.block hBl hz1 (by omega) hb).mono ?_;rintro e wx ⟨B,m,d,rfl,K⟩;clear hrc hrf hsc hsf;obtain⟨hrc,hrf,hsc,hsf⟩:=K.out.cells;have k:=K.out.set (by omega) 3 (.slice B m d);simp only[World.setCells,ak,Nat.reduceAdd,aw,aN,aO]at k;have K:=G k;clear k);obtain⟨hset,hfin⟩:=K.out.fin (y:=dt s.length (f+1) σ) (.mk 5 [] [x] bd []) 5 ⟨#[]⟩ (some ⟨w3.heap.size,0,none⟩) 1 1 B m d none 0 0 (by rw[dt,if_neg (by simp[hv]),if_neg (by simp[hi]),if_pos hw,hx];simp only[hb]) rfl rfl (fun h=>⟨h.1.mono (fun b hb _=>hb.1),h.2.mono (fun b hb _=>by omega), .nil _ _⟩);simp only[World.setCells,ak,Nat.reduceAdd]at hset hfin;exact bodyPost_ret (v:= .agg #[.int .i64 5, .string ⟨#[]⟩, .slice (some ⟨w3.heap.size,0,none⟩) 1 1, .slice B m d, .slice none 0 0]) (by simp[results,results119,go_sem,hset]) rfl hfin
   |false=>
    have hN:=hw;go_wp2_with (go_at_call 31;refine(K.out.no hN).mono ?_;rintro e wx ⟨rfl,K⟩;clear hN;clear hrc hrf hsc hsf;obtain⟨hrc,hrf,hsc,hsf⟩:=K.out.cells)
    cases hr:σ.is j6 with
    |true=>
     have hsz:=dm hr;go_wp2_with (go_at_call 31;refine(K.out.yes hr).mono ?_;rintro e w2 ⟨rfl,K⟩;have hzo:=K.out.rb.lt;have K:=G (K.out.open0 #[.int .i64 6, .string ⟨#[]⟩, .slice none 0 0, .slice none 0 0, .slice none 0 0]);have hpn:w.heap.size≠w2.heap.size:=(by omega);have hpm:w2.heap.size≠w.heap.size:=(by omega);clear hrc hrf hsc hsf;obtain⟨hrc,hrf,hsc,hsf⟩:=K.out.cells)
     cases hs:σ.tail.is iu with
     |true=>
      go_wp2_with (go_at_call 68;refine(K.out.is hs).mono ?_;rintro e wx ⟨rfl,K⟩;clear hrc hrf hsc hsf;obtain⟨hrc,hrf,hsc,hsf⟩:=K.out.cells);have hN:=G (K.out.want iu);go_wp2_with (go_at_call 71;refine hN.out.mono ?_;clear hN;rintro e wx ⟨rfl,K⟩;clear hrc hrf hsc hsf;obtain⟨hrc,hrf,hsc,hsf⟩:=K.out.cells);obtain⟨hset,hfin⟩:=K.out.fin (y:=dt s.length (f+1) σ) (.mk 6 [] [] [] []) 6 ⟨#[]⟩ none 0 0 none 0 0 none 0 0 (by rw[dt,if_neg (by simp[hv]),if_neg (by simp[hi]),if_neg (by simp[hw]),if_pos hr,if_pos hs]) rfl rfl (fun _=>⟨.nil _ _, .nil _ _, .nil _ _⟩);simp only[World.setCells,ak,Nat.reduceAdd]at hset hfin;exact bodyPost_ret (v:= .agg #[.int .i64 6, .string ⟨#[]⟩, .slice none 0 0, .slice none 0 0, .slice none 0 0]) (by simp[results,results119,go_sem,hset]) rfl hfin
     |false=>
      obtain⟨⟨x,τ⟩,hx⟩: ∃y,br s.length f 1 σ.tail=y:=⟨_,rfl⟩
      have hf1:4*σ.tail.size+2<=f:=by omega
      go_wp2_with (go_at_call 68;refine(K.out.is hs).mono ?_;rintro e wx ⟨rfl,K⟩;clear hrc hrf hsc hsf;obtain⟨hrc,hrf,hsc,hsf⟩:=K.out.cells);go_wp2_with (go_at_call 143;refine(K.out.expr hE hf1 hx).mono ?_;rintro e w3 ⟨A,n,c,rfl,K⟩;clear hrc hrf hsc hsf;obtain⟨hrc,hrf,hsc,hsf⟩:=K.out.cells;have k:=K.out.set (by omega) 2 (.slice (some ⟨w3.heap.size,0,none⟩) 1 1);simp only[World.setCells,ak,Nat.reduceAdd,aw,aN,aO]at k;have K:=G k;clear k);have hN:=G (K.out.want iu);go_wp2_with (go_at_call 71;refine hN.out.mono ?_;clear hN;rintro e wx ⟨rfl,K⟩;clear hrc hrf hsc hsf;obtain⟨hrc,hrf,hsc,hsf⟩:=K.out.cells);obtain⟨hset,hfin⟩:=K.out.fin (y:=dt s.length (f+1) σ) (.mk 6 [] [x] [] []) 6 ⟨#[]⟩ (some ⟨w3.heap.size,0,none⟩) 1 1 none 0 0 none 0 0 (by rw[dt,if_neg (by simp[hv]),if_neg (by simp[hi]),if_neg (by simp[hw]),if_pos hr,if_neg (by simp[hs]),hx]) rfl rfl (fun h=>⟨h.2.mono (fun b hb _=>by omega), .nil _ _, .nil _ _⟩);simp only[World.setCells,ak,Nat.reduceAdd]at hset hfin;exact bodyPost_ret (v:= .agg #[.int .i64 6, .string ⟨#[]⟩, .slice (some ⟨w3.heap.size,0,none⟩) 1 1, .slice none 0 0, .slice none 0 0]) (by simp[results,results119,go_sem,hset]) rfl hfin
    |false=>
     obtain⟨⟨⟨tk,tx,tv,tf⟩,σ1⟩,hy⟩: ∃y,σ.take s.length 1=y:=⟨_,rfl⟩
     have hs1:=i1 hy;have hfd:=ly tk tv tf tx;have hN:=hr;go_wp2_with (go_at_call 31;refine(K.out.no hN).mono ?_;rintro e wx ⟨rfl,K⟩;clear hN;clear hrc hrf hsc hsf;obtain⟨hrc,hrf,hsc,hsf⟩:=K.out.cells);go_wp2_with (go_at_call 69;refine(K.out.take (by decide) hy).mono ?_;rintro e w2 ⟨rfl,K⟩;have hzo:=K.out.rb.lt;have K:=G (K.out.open0 #[.int .i64 0, .string ⟨#[]⟩, .slice none 0 0, .slice none 0 0, .slice none 0 0]);have hpn:w.heap.size≠w2.heap.size:=(by omega);have hpm:w2.heap.size≠w.heap.size:=(by omega);clear hrc hrf hsc hsf;obtain⟨hrc,hrf,hsc,hsf⟩:=K.out.cells)
     cases he:σ1.is l9 with
     |true=>
      have hz:=dm he;obtain⟨⟨x,τ⟩,hx⟩: ∃y,br s.length f 1 σ1.tail=y:=⟨_,rfl⟩
      have hf1:4*σ1.tail.size+2<=f:=by omega
      go_wp2_with (go_at_call 31;refine(K.out.yes he).mono ?_;rintro e wx ⟨rfl,K⟩;clear hrc hrf hsc hsf;obtain⟨hrc,hrf,hsc,hsf⟩:=K.out.cells);go_wp2_with (go_at_call 143;refine(K.out.expr hE hf1 hx).mono ?_;rintro e w3 ⟨A,n,c,rfl,K⟩;clear hrc hrf hsc hsf;obtain⟨hrc,hrf,hsc,hsf⟩:=K.out.cells;have k:=K.out.put5 (by omega) (.int .i64 2) (.string (ae tx)) (.slice (some ⟨w3.heap.size,0,none⟩) 1 1) (.slice none 0 0) (.slice none 0 0);simp only[World.setCells,ak,Nat.reduceAdd,aw,aN,aO]at k;have K:=G k;clear k);have hN:=G (K.out.want iu);go_wp2_with (go_at_call 71;refine hN.out.mono ?_;clear hN;rintro e wx ⟨rfl,K⟩;clear hrc hrf hsc hsf;obtain⟨hrc,hrf,hsc,hsf⟩:=K.out.cells);obtain⟨hset,hfin⟩:=K.out.fin (y:=dt s.length (f+1) σ) (.mk 2 tx [x] [] []) 2 (ae tx) (some ⟨w3.heap.size,0,none⟩) 1 1 none 0 0 none 0 0 (by rw[dt,if_neg (by simp[hv]),if_neg (by simp[hi]),if_neg (by simp[hw]),if_neg (by simp[hr]),hy,if_pos he,hx]) rfl rfl (fun h=>⟨h.2.mono (fun b hb _=>by omega), .nil _ _, .nil _ _⟩);simp only[World.setCells,ak,Nat.reduceAdd]at hset hfin;exact bodyPost_ret (v:= .agg #[.int .i64 2, .string (ae tx), .slice (some ⟨w3.heap.size,0,none⟩) 1 1, .slice none 0 0, .slice none 0 0]) (by simp[results,results119,go_sem,hset]) rfl hfin
     |false=>
      have hN:=he;go_wp2_with (go_at_call 31;refine(K.out.no hN).mono ?_;rintro e wx ⟨rfl,K⟩;clear hN;clear hrc hrf hsc hsf;obtain⟨hrc,hrf,hsc,hsf⟩:=K.out.cells)
      cases hls:σ1.is jD with
      |true=>
       have hz:=dm hls;obtain⟨⟨xi,τ⟩,hx⟩: ∃y,br s.length f 1 σ1.tail=y:=⟨_,rfl⟩
       have hf1:4*σ1.tail.size+2<=f:=by omega
       have hq1:=(mG s.length f).1 1 σ1.tail;rw[hx]at hq1;simp only at hq1;have hw1:=gZ s.length jq τ;have hw2:=gZ s.length l9 (τ.want s.length jq);obtain⟨⟨xj,τ2⟩,hx2⟩: ∃y,br s.length f 1 ((τ.want s.length jq).want s.length l9)=y:=⟨_,rfl⟩
       have hf2:4*((τ.want s.length jq).want s.length l9).size+2<=f:=by omega
       go_wp2_with (go_at_call 31;refine(K.out.yes hls).mono ?_;rintro e wx ⟨rfl,K⟩;clear hrc hrf hsc hsf;obtain⟨hrc,hrf,hsc,hsf⟩:=K.out.cells);go_wp2_with (go_at_call 143;refine(K.out.exprV hE hf1 hx).mono ?_;rintro e w4 ⟨Ai,ni,ci,rfl,K⟩;have hzi:=K.out.1;have K:=G K.out.2;have hig:w4.heap.size≠g:=(by have:=K.out.nn;omega);have hin:w4.heap.size≠w2.heap.size:=(by omega);clear hrc hrf hsc hsf;obtain⟨hrc,hrf,hsc,hsf⟩:=K.out.cells);have hN:=G (K.out.want jq);go_wp2_with (go_at_call 71;refine hN.out.mono ?_;clear hN;rintro e wx ⟨rfl,K⟩;clear hrc hrf hsc hsf;obtain⟨hrc,hrf,hsc,hsf⟩:=K.out.cells);have hN:=G (K.out.want l9);go_wp2_with (go_at_call 71;refine hN.out.mono ?_;clear hN;rintro e w5 ⟨rfl,K⟩;clear hrc hrf hsc hsf;obtain⟨hrc,hrf,hsc,hsf⟩:=K.out.cells);have hg5:=K.out.pa.lt;have hzw:=K.out.sv.lt;have hzi:=K.out.xx.1.lt;clear hrc hrf hsc hsf
       refine bC 6 8 [(3,fun v=> ∃A n c,v= .agg #[.int .i64 xj.k, .string (ae xj.op), .string (ae xj.nm), .string (ae xj.tx), .int .i64 xj.v, .slice A n c],fun v wx=> ∀A n c,v= .agg #[.int .i64 xj.k, .string (ae xj.op), .string (ae xj.nm), .string (ae xj.tx), .int .i64 xj.v, .slice A n c]->bZ wx (fun b=>w5.heap.size<=b) (.slice A n c) xj.args/\QA wx g s ts τ2),
         (4,fun v=> ∃gb,v= .slice (some ⟨gb,0,none⟩) 2 2,fun v wx=>bZ wx (fun b=>w2.heap.size<b) v [xi,xj])] 3 (some g) mixed (by kernel_rfl)
        ⟨fun _ _ _ h hx A n c e=>⟨(h A n c e).1.keep (.of_ext hx) (fun _ hb _=>hb),(h A n c e).2.ext hx⟩,fun _ _ _ h hx=>h.keep (.of_ext hx) (fun _ hb _=>hb),trivial⟩
        ⟨.inl rfl, .inr fun _ _ _ h hx=>h.keep (.of_grown hx fun b hb e=>by injection e with e;omega) (fun _ hb _=>hb),trivial⟩ ?_
       repeat (refine sx ?_ (fun w1 hU=> ?_) ?_;rotate_left;(focus have f1:=(K.out.xx.1.grown (aD hU) (fun e=>hig (M e))).cell;clear hU;go_simp<;>with_reducible rfl);simp only[bf,be,bc,a_,a8])
       refine ce _ _ (by rfl) rfl ⟨_,none,0,0,rfl⟩ rfl (fun w6 hT hp J hJ=> ?_) ?_
       ·clear hp;have hc:=hE 1 ((τ.want s.length jq).want s.length l9) s ts w6 g (K.out.pa.ext hT.un) (by decide) (by decide) hf2;have HT6:=G hT.un;clear hT;go_simp;refine hc.mono ?_;intro e w7 hh;rw[hx2]at hh;obtain⟨hG,hPA,A,n,c,rfl,hR⟩:=hh;exact hJ _ _ hG ⟨_,_,_,rfl⟩ (fun A' n' c' e=>by injection e with e;simp only[cI,cw,b_,and_true,true_and]at e;obtain⟨rfl,rfl,rfl⟩:=e;exact⟨hR.mono (fun b hb _=>aS (bJ HT6.out) hb),hPA⟩)
       rintro _ ⟨A2,n2,c2,rfl⟩;simp only[bf,be,bc,a_,a8];refine bw _ _ (by rfl) rfl ⟨_,0,rfl⟩ (by simp) (fun w6 hU hp J hJ=> ?_) ?_
       ·have h3:=(hp _ (.head _) (by kernel_rfl)) A2 n2 c2 rfl;have hU':=aD hU;have hz6:=hU'.size;have hr6:=K.out.xx.2.keep (.of_grown hU' fun b hb e=>by injection e with e;omega) (fun b hb _=>hb);clear hp hU;go_simp;exact hJ _ _ (O w6 _) ⟨_,rfl⟩ (bZ.two (ai w6 _ _) (by omega) (hr6.keep (.of_ext (O w6 _)) (fun _ hb _=>hb)) (h3.1.keep (.of_ext (O w6 _)) (fun b hb _=>by omega)))
       rintro _ ⟨gb,rfl⟩;simp only[bf,be,bc,a_,a8];repeat (refine sx ?_ (fun w1 hU=> ?_) ?_;rotate_left;(focus go_simp<;>with_reducible rfl);simp only[bf,be,bc,a_,a8])
       intro w8 hw8 hp;have h4:=hp _ (.head _);have h3:=(hp _ (.tail _ (.head _)) A2 n2 c2 rfl).2;clear hp;simp only[ab,ap];have K:=G ((K.out.step h3 (aD hw8)).with h4 fun k hk V V' hV h=>h.keep (K.out.kp hk hV) (fun b hb _=>hb));obtain⟨hrc,hrf,hsc,hsf⟩:=K.out.cells;clear h3 h4 hw8;have k:=K.out.put5 (by omega) (.int .i64 3) (.string (ae tx)) (.slice (some ⟨gb,0,none⟩) 2 2) (.slice none 0 0) (.slice none 0 0);simp only[World.setCells,ak,Nat.reduceAdd]at k;have K:=G k;clear k;have hN:=G (K.out.want iu);go_wp2_with (go_at_call 71;refine hN.out.mono ?_;clear hN;rintro e wx ⟨rfl,K⟩;clear hrc hrf hsc hsf;obtain⟨hrc,hrf,hsc,hsf⟩:=K.out.cells);obtain⟨hset,hfin⟩:=K.out.fin (y:=dt s.length (f+1) σ) (.mk 3 tx [xi,xj] [] []) 3 (ae tx) (some ⟨gb,0,none⟩) 2 2 none 0 0 none 0 0 (by rw[dt,if_neg (by simp[hv]),if_neg (by simp[hi]),if_neg (by simp[hw]),if_neg (by simp[hr]),hy,if_neg (by simp[he]),if_pos hls,hx];simp only[hx2]) rfl rfl (fun h=>⟨h.2.mono (fun b hb _=>by omega), .nil _ _, .nil _ _⟩);simp only[World.setCells,ak,Nat.reduceAdd]at hset hfin;exact bodyPost_ret (v:= .agg #[.int .i64 3, .string (ae tx), .slice (some ⟨gb,0,none⟩) 2 2, .slice none 0 0, .slice none 0 0]) (by simp[results,results119,go_sem,hset]) rfl hfin
      |false=>
       obtain⟨k,rfl⟩: ∃k,f=k+2:=⟨f-2,by omega⟩
       have hws:=gZ s.length fi σ1;obtain⟨⟨a,τ⟩,hx⟩: ∃y,ef s.length (k+1) (σ1.want s.length fi)=y:=⟨_,rfl⟩
       have hN:=hls;go_wp2_with (go_at_call 31;refine(K.out.no hN).mono ?_;rintro e wx ⟨rfl,K⟩;clear hN;clear hrc hrf hsc hsf;obtain⟨hrc,hrf,hsc,hsf⟩:=K.out.cells);have hN:=G (K.out.want fi);go_wp2_with (go_at_call 71;refine hN.out.mono ?_;clear hN;rintro e wx ⟨rfl,K⟩;clear hrc hrf hsc hsf;obtain⟨hrc,hrf,hsc,hsf⟩:=K.out.cells);go_wp2_with (go_at_call 145;refine(K.out.args (tx:=tx) (by omega) (by omega) hx).mono ?_;rintro e w3 ⟨A,n,c,rfl,K⟩;clear hrc hrf hsc hsf;obtain⟨hrc,hrf,hsc,hsf⟩:=K.out.cells;have k:=K.out.put5 (by omega) (.int .i64 7) (.string ⟨#[]⟩) (.slice (some ⟨w3.heap.size,0,none⟩) 1 1) (.slice none 0 0) (.slice none 0 0);simp only[World.setCells,ak,Nat.reduceAdd,aw,aN,aO]at k;have K:=G k;clear k);have hN:=G (K.out.want iu);go_wp2_with (go_at_call 71;refine hN.out.mono ?_;clear hN;rintro e wx ⟨rfl,K⟩;clear hrc hrf hsc hsf;obtain⟨hrc,hrf,hsc,hsf⟩:=K.out.cells);obtain⟨hset,hfin⟩:=K.out.fin (y:=dt s.length (k+2+1) σ) (.mk 7 [] [.mk 5 [] tx [] 0 a] [] []) 7 ⟨#[]⟩ (some ⟨w3.heap.size,0,none⟩) 1 1 none 0 0 none 0 0 (by rw[dt,if_neg (by simp[hv]),if_neg (by simp[hi]),if_neg (by simp[hw]),if_neg (by simp[hr]),hy,if_neg (by simp[he]),if_neg (by simp[hls])];simp only[show k+2-1=k+1 from rfl,hx]) rfl rfl (fun h=>⟨h.2.mono (fun b hb _=>by omega), .nil _ _, .nil _ _⟩);simp only[World.setCells,ak,Nat.reduceAdd]at hset hfin;exact bodyPost_ret (v:= .agg #[.int .i64 7, .string ⟨#[]⟩, .slice (some ⟨w3.heap.size,0,none⟩) 1 1, .slice none 0 0, .slice none 0 0]) (by simp[results,results119,go_sem,hset]) rfl hfin
theorem nT: ∀(f:Nat),f<=400000->(∀i,i<=f->vD i)/\(1<=f->kI f)/\yg f
 |0,_=>by
  refine⟨fun i hi=> ?_,fun h=>by omega,?_⟩
  ·obtain rfl:i=0:=by omega
   intro σ s ts w g h hf;omega
  ·intro σ s ts w g h hf;omega
 |f+1,hf=>by
  obtain⟨h1,h2,h3⟩:=nT f (by omega);have hE:=nU (f:=f) (by omega);have hB:kI f:=by
   rcases Nat.eq_zero_or_pos f with rfl|h
   ·intro σ s ts w g _ _ h;omega
   ·exact h2 h
  have hS:=qZ f (by omega) hE hB h3
  exact⟨fun i hi=>by
   rcases dB f i with h|h
   ·obtain rfl:i=f+1:=by omega
    exact hS
   ·exact h1 i h,fun _=>qh f (by omega) h1,uf f hE hB h3⟩
theorem ky {f:Nat} (hf:f<=400000) (h1:1<=f):kI f:=(nT f hf).2.1 h1
end
end Go.Proofs.YtelplgkppalmfaaGreatDoor
