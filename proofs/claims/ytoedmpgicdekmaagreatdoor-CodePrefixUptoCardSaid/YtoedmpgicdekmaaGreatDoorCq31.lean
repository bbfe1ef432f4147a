/-
  Parts of the proof: CrD CrE.
-/
import Derived.Test.YtoedmpgicdekmaaGreatDoorCq00
import Derived.Deep.CutBlock
import Derived.BigRegion
import Derived.Test.YtoedmpgicdekmaaGreatDoorCq30
import Derived.Test.YtoedmpgicdekmaaGreatDoorCq21
set_option maxRecDepth 100000
set_option maxHeartbeats 8000000
set_option linter.unusedVariables false
set_option linter.unusedSimpArgs false
set_option linter.unusedSectionVars false
namespace Go.Proofs.YtoedmpgicdekmaaGreatDoor
open Go.Proofs.Tryz
section
open Go.RowKit
def oz (u:Nat):List Value:=[.int .i64 0, .int .i64 0, .int .i64 0, .int .i64 0, .int .i64 0, .slice none 0 0, .int .i64 (u:Int)]
def Gc (o:Oc) (A:Option Addr) (c:Nat):List Value:=[.int .i64 o.kind, .int .i64 o.call, .int .i64 o.a0, .int .i64 o.a1, .int .i64 o.a2, .slice A o.data.length c, .int .i64 (o.used:Int)]
def RO (w:World) (b:Nat) (sz:Nat) (rv:Value) (o:Oc):Prop:= ∃M g A c,RB w b M sz g rv (Gc o A c)/\Sl w A c o.data
def D0 (b sz:Nat) (rv:Value):Except Oc Ru->Ending->World->Prop
 | .ok s,e,w=>e= .returned (.bool true)/\RB w b s.m sz s.g rv (oz s.used)
 | .error o,e,w=>e= .returned (.bool false)/\RO w b sz rv o
theorem f' {w:World} {b:Nat} {M:jN} {sz:Nat} {g:Rg} {rv:Value} {u:Nat} {r:Except Oc Ru} (h:RB w b M sz g rv [.int .i64 2, .int .i64 0, .int .i64 0, .int .i64 0, .int .i64 0, .slice none 0 0, .int .i64 (u:Int)]) (e:r= .error ⟨2,0,0,0,0,[],u⟩):D0 b sz rv r (.returned (.bool false)) w:=by
 subst e;exact⟨rfl,M,g,none,0,h,d7 w⟩
structure DY (t:rp):Prop where
 n: -2147483648<=t.num/\t.num<=2147483647
 a0: -2147483648<=t.a0/\t.a0<=2147483647
 a1: -2147483648<=t.a1/\t.a1<=2147483647
 a2: -2147483648<=t.a2/\t.a2<=2147483647
 ad: -2147483648<=t.addr/\t.addr<=2147483647
 ln: -2147483648<=t.len/\t.len<=2147483647
theorem jA (M:jN) (a n:Nat):(qY M a n).length=n:=by simp[qY]
theorem RB.cut {w:World} {b:Nat} {M:jN} {sz:Int} {g:Rg} {rv:Value} {ol:List Value} (h:RB w b M sz g rv ol) (a n c:Nat) (ha:a+n<=4096) (hc:n<=c) (hc2:c<=maxLen):Sl w (some ⟨b,a,none⟩) c (qY M a n):=
 ⟨by rw[jA];exact hc,hc2,fun e=>(by cases e), .inr ⟨b,a,rfl,oX h,fun i hi=>by
  rw[jA]at hi;rw[h.mem _ (by omega)]
  simp[qY]⟩⟩
theorem vG {P:Program} {w:World} {o:Oper} {a:Act} {K:Act->World->Prop} {Q:Exit->Act->World->Prop} {t e:TypeId} (hT:ks P t e) (s x:Operand)
  (ho:o.op= .call {callee:= .builtin .append,args:= #[s,x],argTypes:= #[t,t]}) (hv:a.eval s= .slice none 0 0)
  (A:Option Addr) (cap:Nat) (m:List UInt8) {n:Nat} (hn:m.length=n) (hx:a.eval x= .slice A n cap) (hs:Sl w A cap m) (hb:n<=70368744177664)
  (h: ∀A' cap' w',Sl w' A' cap' m->au w w'->(∀b o,A'=some ⟨b,o,none⟩->w.heap.size<=b)->K (a.put o.dst (.slice A' n cap')) w'):o.wp P a w K Q:=by
 subst hn;obtain⟨A',cap',w',hr,h1,h2,h3⟩:=mT (P:=P) hT o.type w.heap.size (.slice none 0 0) [] (fZ.nil_ w _ e) A cap m hs (by simpa using hb) (ah _);simp only[ag,be,List.nil_append]at hr h1 h3;have hE:au w w':=⟨h2.os,h2.tape,h2.output,h2.size,fun k hk=>h2.block k hk (by simp[Value.ownBlock])⟩
 unfold Oper.wp execOp;simp only[ho,resolve,invoke,builtin,Sem.run_bind,Sem.run_pure,Result.andThen_ok,cU,bS,db,hv,hx,hr];refine h A' cap' w' h1.sl.2 hE fun b o hA=> ?_;subst hA;rcases h3 with h3|h3
 ·simp[Value.ownBlock]at h3
 ·simp only[Value.ownBlock]at h3;have:b=w.heap.size:=by simpa using h3
  omega
theorem Dd {w:World} {A:Option Addr} {c:Nat} {l:List UInt8} (h:Sl w A c l) (n:Nat):Sl w A c (l.take n):=by
 refine⟨by have:=h.le;simp;omega,h.max,h.nil,?_⟩;rcases h.rd with rfl|⟨b,o,ha,hb,hc⟩
 ·exact .inl (by simp)
 ·exact .inr ⟨b,o,ha,hb,fun i hi=>by rw[aW]at hi;rw[hc i (by omega),eX]⟩
theorem rZ (M:jN) (a:Nat):jS M a []=M:=by
 funext i;unfold jS;rw[if_neg (by simp)]
theorem jp {w:World} {ops:Array Oper} {rest:List Oper} {o:Oper} {a:Act} {Q:Exit->Act->World->Prop} (hgd:o.guard=none) (d s:Operand)
  (ho:o.op= .call {callee:= .builtin .copy,args:= #[d,s],argTypes:= #[36,36]}) {b:Nat} {M:jN} {sz:Int} {g:Rg} {rv:Value} {ol:List Value} (h:RB w b M sz g rv ol) (q dLen dCap:Nat) (hd:a.eval d= .slice (some ⟨b,q,none⟩) dLen dCap)
  (A:Option Addr) (c n:Nat) (m:List UInt8) (hn:m.length=n) (hs:a.eval s= .slice A n c) (hS:Sl w A c m) (hq:q+(m.take dLen).length<=4096)
  (k: ∀w' v,RB w' b (jS M q (m.take dLen)) sz g rv ol->Mv (fun k=>k=b) w w'->w'.heap.size=w.heap.size->wpList prog ops Q rest (a.put o.dst v) w'):wpList prog ops Q (o::rest) a w:=by
 have hsz:(prog.info? 5).map (·.size)=some 1:=by kernel_rfl
 subst hn;by_cases h0:m.take dLen=[]
 ·refine wpList_copy_nothing hgd d s _ _ ho 5 underlying36 hsz _ _ _ _ _ _ hd hs ?_ ?_
  ·have:=congrArg List.length h0;rw[aW]at this;simp only[ag]at this;show min m.length dLen=0;omega
  ·exact k w _ (by rw[h0,rZ];exact h) (fA _ _) rfl
 ·rcases hS.rd with rfl|⟨b1,o1,rfl,_,hc⟩
  ·exact absurd (by simp) h0
  have hb:=ip (m.take dLen);refine wpList_copy_own hgd d s _ _ ho 5 underlying36 hsz b q dLen dCap ⟨b1,o1,none⟩ m.length c hd hs _ _ h (gn (m.take dLen)) (by rw[hb,aW];exact Nat.min_comm _ _) (fun j v hv=> ?_) (by rw[hb];simp[bX,mn]at hq⊢;omega) (fun v hv=> ?_) ?_
  ·have hj:j<(m.take dLen).length:=by have:=(List.getElem?_eq_some_iff.1 hv).1;simpa[gn]using this
   have hj2:j<m.length:=by rw[aW]at hj;omega
   rw[Addr.add_lit,hc j hj2,<-hv];simp only[gn,cV];rw[aD hj];simp[eX,oY]
  ·obtain⟨x,_,rfl⟩:=List.mem_map.1 hv;rfl
  ·refine k _ _ ?_ ?_ (by simp)
   ·have h2:=setRow_heap w b _ ((jU M++mn sz g rv ol).toArray.toList.take q++(gn (m.take dLen)++(jU M++mn sz g rv ol).toArray.toList.drop (q+(gn (m.take dLen)).length))).toArray _ _ h;refine RB.put h q (m.take dLen) (by omega) (h2.trans ?_);simp only[splice]
   ·exact⟨rfl,rfl,rfl,by simp,fun k _ hk=>setRow_other w b k _ hk⟩
theorem lA {w:World} {ops:Array Oper} {rest:List Oper} {o:Oper} {a:Act} {Q:Exit->Act->World->Prop} (hgd:o.guard=none) (d s:Operand)
  (ho:o.op= .call {callee:= .builtin .copy,args:= #[d,s],argTypes:= #[36,36]}) {b:Nat} {M:jN} {sz:Int} {g:Rg} {rv:Value} {ol:List Value} (h:RB w b M sz g rv ol) (q dLen dCap:Nat) (hd:a.eval d= .slice (some ⟨b,q,none⟩) dLen dCap)
  (A:Option Addr) (c n:Nat) (m:List UInt8) (hn:m.length=n) (hs:a.eval s= .slice A n c) (hS:Sl w A c m) (hm:n<=dLen) (hq:q+n<=4096)
  (k: ∀w' v,RB w' b (jS M q m) sz g rv ol->Mv (fun k=>k=b) w w'->w'.heap.size=w.heap.size->wpList prog ops Q rest (a.put o.dst v) w'):wpList prog ops Q (o::rest) a w:=by
 have ht:m.take dLen=m:=bh (by omega);refine jp hgd d s ho h q dLen dCap hd A c n m hn hs hS (by rw[ht];omega) ?_;rw[ht];exact k
theorem DG (w:World) (n:Nat) (o:Obj) (k i:Nat) (h:k<w.heap.size):((w.drewN n).alloc o).cell? ⟨k,i,none⟩=w.cell? ⟨k,i,none⟩:=(((aG w).drewN n).alloc' o).cell k i h
theorem vg (w:World) (n:Nat):(w.drewN n).heap.size=w.heap.size:=rfl
theorem zB (w:World) (n:Nat) (cs:Array Value) (t:TypeId) (i:Nat):((w.drewN n).alloc (.cells cs t)).cell? ⟨w.heap.size,i,none⟩=cs[i]? /\((w.drewN n).alloc (.cells cs t)).frozen? ⟨w.heap.size,i,none⟩=false:=by
 have h:=aw (w.drewN n) t cs;rw[vg]at h;exact⟨h.cell i,h.frozen i⟩
theorem DF {w W:World} {n:Nat} {t:TypeId} {z0 z1 v0 v1:Value} (e:(((w.drewN n).alloc (.cells #[z0,z1] t)).setCell ⟨w.heap.size,0,none⟩ v0).setCell ⟨w.heap.size,1,none⟩ v1=W):au w W/\Hid (aP W w.heap.size t #[v0,v1])/\Hid (W.heap.size=w.heap.size+1):=by
 subst e;have h:=aw (w.drewN n) t #[z0,z1];rw[vg]at h;refine⟨(((((aG w).drewN n).alloc' _).set (p:=⟨w.heap.size,0,none⟩) (ah _) v0).set (p:=⟨w.heap.size,1,none⟩) (ah _) v1),(h.set 0 v0).set 1 v1,?_⟩;simp[Hid,World.setCell]
theorem RB.used {w:World} {b:Nat} {M:jN} {sz:Int} {g:Rg} {rv:Value} {u:Nat} (h:RB w b M sz g rv (oz u)):RB (w.setCell ⟨b,4121,none⟩ (.int .i64 ((u:Int)+1))) b M sz g rv (oz (u+1)):=h.setOut 6 (.int .i64 ((u:Int)+1))
theorem zw {P:Program} {w:World} {o:Oper} {ev:Operand->Value} (ty:TypeId) (x:Operand) (ho:o.op= .load ty x) (g i:Nat) (hx:ev x= .pointer (some ⟨g,i,none⟩)) (v:Value) (hl:(loadVar ty ⟨g,i,none⟩).run P w= .ok v w):(execOp ev o).run P w= .ok (.value v) w:=by
 simp[execOp,ho,Instr.loadAt,Instr.sureAddr,hx,hl,Result.andThen]
theorem EO {w:World} {b:Nat} {M:jN} {sz:Int} {g:Rg} {rv:Value} {ol:List Value} (h:RB w b M sz g rv ol):(loadVar 109 ⟨b,4097,none⟩).run prog w= .ok (.agg g.cs) w:=
 run_loadVar_mid w b 4097 109 g.cs.toList _ h.regs underlying109 rfl (by kernel_rfl)
theorem A_ {w W:World} {b n:Nat} {M:jN} {sz:Int} {g:Rg} {rv o0 o1 o2 o3 o4 o5 o6 v1 v2 v3 v4 v5:Value} (h:RB w b M sz g rv [o0,o1,o2,o3,o4,o5,o6])
  (e:(((((w.drewN n).setCell ⟨b,4116,none⟩ v1).setCell ⟨b,4117,none⟩ v2).setCell ⟨b,4118,none⟩ v3).setCell ⟨b,4119,none⟩ v4).setCell ⟨b,4120,none⟩ v5=W):Hid (RB W b M sz g rv [o0,v1,v2,v3,v4,v5,o6])/\Hid (Mv (fun k=>k=b) w W):=by
 subst e;have h0:RB (w.drewN n) b M sz g rv [o0,o1,o2,o3,o4,o5,o6]:=h.ext ((aG w).drewN n);exact⟨((((h0.setOut 1 v1).setOut 2 v2).setOut 3 v3).setOut 4 v4).setOut 5 v5,(cE ((aG w).drewN n)).trans ((((Br _ _ _ _).trans (Br _ _ _ _)).trans (Br _ _ _ _)).trans (Br _ _ _ _)|>.trans (Br _ _ _ _))⟩
theorem tL (b:Nat) (M:jN) (sz:Nat) (g:Rg) (rv:Value) (u:Nat) (R:Rs) (t:rp) (w:World) (h:RB w b M sz g rv (oz u)) (hR:iT w (fun k=>k≠b) rv R) (hu:u<=R.length) (hl:R.length<=1000000000) (hz:sz<=4096) (ht:DY t):
  Calls prog 94 #[.pointer (some ⟨b,0,none⟩),t.val] w fun e w'=>Mv (fun k=>k=b) w w'/\D0 b sz rv (qo sz R t ⟨M,g,u⟩) e w':=by
 obtain⟨kd,num,a0,a1,a2,ad,ln⟩:=t;obtain⟨⟨n0,n1⟩,⟨x0,x1⟩,⟨y0,y1⟩,⟨v0,v1⟩,⟨d0,d1⟩,⟨l0,l1⟩⟩:=ht;simp only at n0 n1 x0 x1 y0 y1 v0 v1 d0 d1 l0 l1
 have HS:=G (show qo sz R ⟨kd,num,a0,a1,a2,ad,ln⟩ ⟨M,g,u⟩=if num<0\/20<=num then .error ⟨2,0,0,0,0,[],u⟩
  else if qw num=true/\(ln<0\/128<ln\/fK sz ad ln.toNat=false)then .error ⟨2,0,0,0,0,[],u⟩
  else match R[u]? with
   |none=> .error ⟨1,num,a0,a1,a2,if qw num=true then qY M ad.toNat ln.toNat else[],u⟩
   |some r=>if fK sz ad (r.2.take (sj ⟨kd,num,a0,a1,a2,ad,ln⟩).toNat).length=false then .error ⟨2,0,0,0,0,[],u+1⟩
    else .ok ⟨jS M ad.toNat (r.2.take (sj ⟨kd,num,a0,a1,a2,ad,ln⟩).toNat),g.reply r.1,u+1⟩from rfl)
 have HMo:=G (show sj ⟨kd,num,a0,a1,a2,ad,ln⟩=if num=9 then a1 else if num=15 then a0 else 0 from rfl);generalize qo sz R ⟨kd,num,a0,a1,a2,ad,ln⟩ ⟨M,g,u⟩=RES at*;generalize sj ⟨kd,num,a0,a1,a2,ad,ln⟩=MO at*;unfold rp.val;simp only;have HEnd:=G (fun(W:World) (M:jN) (g:Rg) (z:Int) o1 o2 o3 o4 o5 (u:Nat) (hb:RB W b M sz g rv [.int .i64 0,o1,o2,o3,o4,o5, .int .i64 (u:Int)])=>ve b M sz g rv _ _ _ _ _ _ _ z W hb);have HMay:=G (fun(W:World) (M:jN) (g:Rg) ol (n:Nat) (hn:n<=9223372036854775807) (hb:RB W b M sz g rv ol)=>uX b M sz g rv ol ad n (by omega) hn hz W hb);have HW:=G h;have HR:=G hR;have HU:=G hu;have HL:=G hl;have HZ:=G hz;clear h hR hu hl hz;go_enter func94,ntmps94
 go_upto_region 1 with fail
 generalize hW:World.alloc w _=W0;obtain⟨hX,tb,s0⟩:=jm hW;replace hX:=G hX;have hbw:b<w.heap.size:=oX HW.out;have HB:=G (HW.out.ext hX.out);have HMv:=G (show Mv (fun k=>k=b) w W0 from cE hX.out);have HR0:=G (HR.out.keep (HMv.out.keepP fun k h _=>h));clear hW HW HR;have ct:=tb.out.cell;by_cases hbad:num<0\/20<=num
 ·have HE:=G (show RES= .error ⟨2,0,0,0,0,[],u⟩ by rw[HS.out,if_pos hbad]);clear HS HMay;rcases hbad with hn|hn
  ·go_wp2_with (go_at_call 89;refine(HEnd.out _ _ _ 2 _ _ _ _ _ _ HB.out).mono ?_;rintro e w1 ⟨rfl,hb1,hm1⟩;have HB1:=G hb1;have HM1:=G hm1;clear HEnd ct hb1 hm1);go_ret;exact⟨HMv.out.trans HM1.out,f' HB1.out HE.out⟩
  ·have hn0: ¬num<0:=by omega
   go_wp2_with (go_at_call 89;refine(HEnd.out _ _ _ 2 _ _ _ _ _ _ HB.out).mono ?_;rintro e w1 ⟨rfl,hb1,hm1⟩;have HB1:=G hb1;have HM1:=G hm1;clear HEnd ct hb1 hm1);go_ret;exact⟨HMv.out.trans HM1.out,f' HB1.out HE.out⟩
 rw[if_neg hbad]at HS;have hn0: ¬num<0:=by omega
 have hn1: ¬20<=num:=by omega
 clear hbad;obtain⟨DL,hDL⟩: ∃DL,(if qw num=true then qY M ad.toNat ln.toNat else[])=DL:=⟨_,rfl⟩
 have HDL:=G hDL;rw[hDL]at HS;obtain⟨GG,hGG⟩: ∃GG:Prop,(qw num=true/\(ln<0\/128<ln\/fK sz ad ln.toNat=false))=GG:=⟨_,rfl⟩
 have HGG:=G hGG;have HSa:=G (show GG->RES= .error ⟨2,0,0,0,0,[],u⟩from fun h=>by rw[HS.out,if_pos (by rw[hGG];exact h)]);have HSb:=G (fun(h: ¬GG)=>show RES=_ from by rw[HS.out,if_neg (by rw[hGG];exact h)]);clear hDL hGG HS
 go_upto_block 0 with fail
 go_cut [5]from 19 to 62 (fun s5 wx=> ∃A c nD,s5= .slice A nD c/\Hid (Sl wx A c DL)/\Hid (nD=DL.length)/\Hid (au W0 wx)/\Hid (¬GG)/\Hid (∀b1 i1,A=some ⟨b1,i1,none⟩->b1≠b))
 case first=>
  by_cases hr:qw num=true
  ·have HT:=G (show DL=qY M ad.toNat ln.toNat from by rw[<-HDL.out,if_pos hr]);have HF:=G (show(ln<0\/128<ln\/fK sz ad ln.toNat=false)->RES= .error ⟨2,0,0,0,0,[],u⟩from fun h=>HSa.out (by rw[<-HGG.out];exact⟨hr,h⟩));have HG:=G (show ¬(ln<0\/128<ln\/fK sz ad ln.toNat=false)-> ¬GG from fun h e=>by rw[<-HGG.out]at e;exact h e.2);have hk:num=2\/num=7\/num=10\/num=13\/num=14\/num=15:=by simpa[qw]using hr
   clear HSa HSb hr HDL HGG;by_cases g1:ln<0
   ·have HE:=G (HF.out (.inl g1));clear HF HG HMay HMo;rcases hk with rfl|rfl|rfl|rfl|rfl|rfl;all_goals
     go_wp2_with (go_at_call 89;refine(HEnd.out _ _ _ 2 _ _ _ _ _ _ HB.out).mono ?_;rintro e w1 ⟨rfl,hb1,hm1⟩;have HB1:=G hb1;have HM1:=G hm1;clear HEnd ct hb1 hm1);go_ret;exact⟨HMv.out.trans HM1.out,f' HB1.out HE.out⟩
   by_cases g2:128<ln
   ·have HE:=G (HF.out (.inr (.inl g2)));clear HF HG HMay HMo;rcases hk with rfl|rfl|rfl|rfl|rfl|rfl;all_goals
     go_wp2_with (go_at_call 89;refine(HEnd.out _ _ _ 2 _ _ _ _ _ _ HB.out).mono ?_;rintro e w1 ⟨rfl,hb1,hm1⟩;have HB1:=G hb1;have HM1:=G hm1;clear HEnd ct hb1 hm1);go_ret;exact⟨HMv.out.trans HM1.out,f' HB1.out HE.out⟩
   obtain⟨k,rfl⟩:=aR (show 0<=ln by omega);have HMk:=G (HMay.out W0 M g _ k (by omega) HB.out);simp only[bP]at HF HG HT;obtain⟨mb,hmb⟩: ∃mb,fK sz ad k=mb:=⟨_,rfl⟩
   have HIn:=G (fun(h:mb=true) (hk:0<k)=>iE (hmb.trans h) hk);rw[hmb]at HF HG HMk;clear hmb HMay
   cases mb with
   |false=>
    have HE:=G (HF.out (.inr (.inr rfl)));clear HF HG HMo HIn;rcases hk with rfl|rfl|rfl|rfl|rfl|rfl;all_goals
     go_wp2_with (first|(go_at_call 88;refine HMk.out.mono ?_;rintro e w1 ⟨rfl,rfl⟩;clear HMk)|(go_at_call 89;refine(HEnd.out _ _ _ 2 _ _ _ _ _ _ HB.out).mono ?_;rintro e w1 ⟨rfl,hb1,hm1⟩;have HB1:=G hb1;have HM1:=G hm1;clear HEnd ct hb1 hm1));go_ret;exact⟨HMv.out.trans HM1.out,f' HB1.out HE.out⟩
   |true=>
    have HGo:=G (HG.out (by simp;omega));clear HF HG HEnd;by_cases k0:k=0
    ·subst k0;clear HIn;rcases hk with rfl|rfl|rfl|rfl|rfl|rfl;all_goals
      go_wp2_with (go_at_call 88;refine HMk.out.mono ?_;rintro e w1 ⟨rfl,rfl⟩;clear HMk)
      go_meet
      exact⟨none,0,0,rfl,G (by rw[HT.out];exact d7 _),G (by rw[HT.out];rfl),G (aG _),HGo,G fun _ _ e=>(by cases e)⟩
    ·obtain⟨i0,i1⟩:=HIn.out rfl (by omega);obtain⟨q,rfl⟩:=aR i0;have hk1:(0:Int)<k:=by omega
     have hw:IntKind.i64.wrap ((q:Int)+k)=q+k:=by simp[IntKind.wrap,IntKind.signed,IntKind.bits];omega
     simp only[bP]at HT;clear HIn;rcases hk with rfl|rfl|rfl|rfl|rfl|rfl;all_goals
      go_upto_region 14 with(go_at_call 88;refine HMk.out.mono ?_;rintro e w1 ⟨rfl,rfl⟩;clear HMk)
      refine ay 12 1 [] mixed (by kernel_rfl) trivial ?_;have hsl:=fun w=>Ez b q k (by omega) (by omega) w;repeat (refine sx ?_ (fun w1 hU=> ?_) ?_;rotate_left;(focus have ct:=(tb.out.ext hU.un).cell;clear hU;go_simp<;>with_reducible rfl);simp only[bH,bG,bF,bE,bD])
      intro w5 hw5 hp;have hX5:=G hw5.un;clear hp hw5;simp only[ac,aq];refine wpList_plain rfl fun K hK=> ?_;refine vG bt _ _ rfl rfl _ _ (qY M q k) (n:=k) (jA _ _ _) rfl ((HB.out.ext hX5.out).cut q k _ (by omega) (by omega) (by simp only[maxLen];omega)) (by omega) fun A' c' w6 hs hE hA=>hK _ _ ?_;clear hK;go_wp2_with fail
      go_meet
      exact⟨A',c',k,rfl,G (by rw[HT.out];exact hs),G (by rw[HT.out,jA]),G (hX5.out.trans hE),HGo,G fun b1 i1 e=>by have:=hA b1 i1 e;have:=fL hX5.out;have:=s0.out;omega⟩
  ·have HT:=G (show DL=[]from by rw[<-HDL.out,if_neg hr]);have HGo:=G (show ¬GG from fun h=>by rw[<-HGG.out]at h;exact hr h.1);have hk:num≠2/\num≠7/\num≠10/\num≠13/\num≠14/\num≠15:=by simpa[qw]using hr
   obtain⟨k1,k2,k3,k4,k5,k6⟩:=hk;replace k1:(num==2)=false:=beq_eq_false_iff_ne.2 k1;replace k2:(num==7)=false:=beq_eq_false_iff_ne.2 k2;replace k3:(num==10)=false:=beq_eq_false_iff_ne.2 k3;replace k4:(num==13)=false:=beq_eq_false_iff_ne.2 k4;replace k5:(num==14)=false:=beq_eq_false_iff_ne.2 k5;replace k6:(num==15)=false:=beq_eq_false_iff_ne.2 k6;clear HSa HSb hr HDL HGG HEnd HMay;go_wp2_with fail
   go_meet
   exact⟨none,0,0,rfl,G (by rw[HT.out];exact d7 _),G (by rw[HT.out];rfl),G (aG _),HGo,G fun _ _ e=>(by cases e)⟩
 case rest=>
  obtain⟨A,c,nD,rfl,HSl,HnD,HE0,HGo,HAb⟩:=hcut;have HS:=G (HSb.out HGo.out);clear HSa HSb HGo HGG HDL;have HBc:=G (HB.out.ext HE0.out);have HMc:=G (HMv.out.trans (cE (S:=fun k=>k=b) HE0.out));have HRc:=G (HR0.out.keep ((cE (S:=fun k=>k=b) HE0.out).keepP fun k h _=>h));have tc:=kb tb HE0.out;clear HB HMv HR0 HE0 tb ct;obtain⟨AR,nR,cR,rfl,hnR⟩:=HRc.out.form;have HnR:=G hnR;rw[hnR]at HL HU;have hu':=HU.out;have ct:=tc.out.cell;have c6:=HBc.out.out 6;have cr:=HBc.out.res;have hne:b≠w.heap.size:=by omega
  have hne2:w.heap.size≠b:=by omega
  have fz:=HBc.out.frz;simp only[Nat.reduceAdd,oz,cO,cA]at c6;clear hnR;by_cases hun:u=nR
  ·have hR0:R[u]? =none:=gv (by rw[HnR.out,hun];exact ah _);have HE:=G (show RES= .error ⟨1,num,a0,a1,a2,DL,u⟩ by rw[HS.out,hR0]);have hue:((u:Int)==(nR:Int))=true:=by rw[hun];simp
   clear HS hR0 HMo HMay HRc HL HU HnR hun;go_wp2_with fail
   go_quiet (fail)
   go_upto_region 16 with fail
   have c1:=HBc.out.out 1;have c2:=HBc.out.out 2;have c3:=HBc.out.out 3;have c4:=HBc.out.out 4;have c5:=HBc.out.out 5;simp only[Nat.reduceAdd,oz,cO,cA]at c1 c2 c3 c4 c5;go_region
   go_upto_region 17 with fail
   generalize hW:World.setCell _ _ _=W5;obtain⟨HB5,HM5⟩:=A_ HBc.out hW;have HS5:=G (HSl.out.keepP (HM5.out.keepP (P:=fun k=>k≠b) fun k h _=>h) fun b1 i1 e _=>HAb.out b1 i1 e);clear hW c1 c2 c3 c4 c5 c6 cr ct fz tc;go_wp2_with (go_at_call 89;refine(HEnd.out _ _ _ 1 _ _ _ _ _ _ HB5.out).mono ?_;rintro e w1 ⟨rfl,hb1,hm1⟩;have HB1:=G hb1;have HM1:=G hm1;clear HEnd hb1 hm1);go_ret;refine⟨(HMc.out.trans HM5.out).trans HM1.out,?_⟩;rw[HE.out];exact⟨rfl,_,_,A,c,by have:=HB1.out;rw[HnD.out]at this;exact this,HS5.out.keepP (HM1.out.keepP (P:=fun k=>k≠b) fun k h _=>h) fun b1 i1 e _=>HAb.out b1 i1 e⟩
  ·have hlt:u<R.length:=by rw[HnR.out];omega
   obtain⟨b1,i1,B,d,rfl,hP1,hb1,hc1,hc2,e0,e1,hS1,hP2⟩:=yF HRc.out u hlt;have hRu:R[u]? =some R[u]:=aD hlt;have HS2:=G (show RES=if fK sz ad (R[u].2.take MO.toNat).length=false then .error ⟨2,0,0,0,0,[],u+1⟩else .ok ⟨jS M ad.toNat (R[u].2.take MO.toNat),g.reply R[u].1,u+1⟩ by rw[HS.out,hRu]);generalize R[u]=r at*;obtain⟨r1,rd⟩:=r;simp only at e0 e1 hS1 hP2 HS2;obtain⟨nr,hnr⟩: ∃nr,rd.length=nr:=⟨_,rfl⟩
   have Hnr:=G hnr;rw[hnr]at e1;have HS1:=G hS1;have HP2:=G hP2;have hue:((u:Int)==(nR:Int))=false:=beq_eq_false_iff_ne.2 (by omega);have hui:(u:Int)<(nR:Int):=by omega
   have hbc:b<wc.heap.size:=oX HBc.out;have htc:w.heap.size<wc.heap.size:=tc.out.lt;clear HS HRc hRu hlt hS1 hP2 hnr HSl HnD HAb;go_wp2_with fail
   go_quiet (fail)
   go_upto_region 18 with fail
   have q1:=DG wc;have q2:=fun n cs t i=>(zB wc n cs t i).1;have q3:=fun n cs t i=>(zB wc n cs t i).2;go_region
   go_upto_region 19 with fail
   generalize hW:World.setCell _ _ _=W1;obtain⟨hE1,rb1,s1⟩:=DF hW;have HB1:=G (HBc.out.ext hE1);have HM1:=G (HMc.out.trans (cE (S:=fun k=>k=b) hE1));have tc1:=kb tc hE1;have HS3:=G (HS1.out.ext hE1);clear hW hE1 HBc HMc tc HS1 q1 q2 q3 e0 e1 ct c6 cr fz hb1;have c6:=HB1.out.out 6;have fz:=HB1.out.frz 4121;have hwu:IntKind.i64.wrap ((u:Int)+1)=u+1:=by have:=HL.out;simp[IntKind.wrap,IntKind.signed,IntKind.bits];omega
   simp only[Nat.reduceAdd,oz,cO,cA]at c6
   go_upto_region 20 with fail
   have HB2:=G (HB1.out.used);have HM2:=G (HM1.out.trans (Br W1 b 4121 (.int .i64 ((u:Int)+1))));have HS4:=G (HS3.out.keepP ((Br W1 b 4121 (.int .i64 ((u:Int)+1))).keepP (P:=fun k=>k≠b) fun k h _=>h) HP2.out);generalize hW:World.setCell W1 _ _=W2 at*;obtain⟨_,_,hs,_⟩:=rO hW;replace tc1:=hs _ _ _ (by omega) tc1;replace rb1:=hs _ _ _ (by omega) rb1;clear hW hs c6 fz HB1 HM1 HS3;have HRp:=G (fun W=>wl g r1 W);refine ay 10 7 [(7,fun v=>v= .agg (g.reply r1).cs,fun _ _=>True)] mixed (by kernel_rfl) ⟨fun _ _ _ _ _=>trivial,trivial⟩ ?_
   iterate 4 (refine sx ?_ (fun w1 hU=> ?_) ?_;rotate_left;(focus (clear hU;go_simp<;>with_reducible rfl));simp only[bH,bG,bF,bE,bD])
   refine sx ?_ (fun w1 hU=> ?_) ?_;rotate_left;(focus rw[zw 109 _ rfl b 4097 rfl _ (EO (HB2.out.ext hU.un))]);simp only[bH,bG,bF,bE,bD];repeat (refine sx ?_ (fun w1 hU=> ?_) ?_;rotate_left;(focus have rc:=(rb1.out.ext hU.un).cell;clear hU;go_simp<;>with_reducible rfl);simp only[bH,bG,bF,bE,bD])
   refine so (fun w6 hU hp K hK=> ?_) ?_
   ·clear hp hU;go_simp;refine(HRp.out w6).mono ?_;rintro e w7 ⟨rfl,hE⟩;exact hK _ _ hE rfl trivial
   rintro _ rfl;simp only[bH,bG,bF,bE,bD];repeat (refine sx ?_ (fun w1 hU=> ?_) ?_;rotate_left;(focus clear hU;go_simp<;>with_reducible rfl);simp only[bH,bG,bF,bE,bD])
   intro w5 hw5 hp;have hX5:=G hw5.un;clear hp hw5;simp only[ac,aq];have HB3:=G (HB2.out.ext hX5.out);have HM3:=G (HM2.out.trans (cE (S:=fun k=>k=b) hX5.out));have HS5:=G (HS4.out.ext hX5.out);replace tc1:=kb tc1 hX5.out;replace rb1:=kb rb1 hX5.out;clear hX5 HB2 HM2 HS4 HRp;refine wpList_store_mid rfl 109 _ _ rfl b 4097 (g.reply r1).cs rfl rfl (HB3.out.there rfl 4097 _ (show 4097+17<=4122 by decide)) (by kernel_rfl) (eT _) ?_;obtain⟨hB4,hM4,_⟩:=HB3.out.setRegs (g.reply r1);have HB4:=G hB4;have HM4:=G (HM3.out.trans hM4);have HS6:=G (HS5.out.keepP (hM4.keepP (P:=fun k=>k≠b) fun k h _=>h) HP2.out);replace tc1:=G (mP hM4 tc1.out hne2);replace rb1:=G (mP hM4 rb1.out (show ¬wc.heap.size=b by omega));generalize World.setCells w5 b 4097 (g.reply r1).cs.toList=W3 at*;generalize g.reply r1=g1 at*;clear hB4 hM4 HB3 HM3 HS5;have ct:=tc1.out.cell;have rc:=rb1.out.cell
   go_upto_block 1 with fail
   go_cut [7]from 123 to 134 (fun s7 wx=>s7= .int .i64 MO/\wx=W3)
   case first=>
    by_cases m9:num=9
    ·have hm:=G (show MO=a1 by rw[HMo.out,if_pos m9]);subst m9;go_wp2_with fail
     go_meet
     exact⟨by rw[hm.out],rfl⟩
    ·by_cases m15:num=15
     ·have hm:=G (show MO=a0 by rw[HMo.out,if_neg m9,if_pos m15]);subst m15;go_wp2_with fail
      go_meet
      exact⟨by rw[hm.out],rfl⟩
     ·have hm:=G (show MO=0 by rw[HMo.out,if_neg m9,if_neg m15]);replace m9:(num==9)=false:=beq_eq_false_iff_ne.2 m9;replace m15:(num==15)=false:=beq_eq_false_iff_ne.2 m15;go_wp2_with fail
      go_meet
      exact⟨by rw[hm.out],rfl⟩
   case rest=>
    obtain⟨rfl,rfl⟩:=hcut;have HSb2:=G (Dd HS6.out MO.toNat);obtain⟨bk,hbk⟩: ∃bk,rd.take MO.toNat=bk:=⟨_,rfl⟩
    obtain⟨k,hk⟩: ∃k,bk.length=k:=⟨_,rfl⟩
    have hkl:k=min MO.toNat nr:=by rw[<-hk,<-hbk,aW,Hnr.out]
    rw[hbk]at HS2 HSb2;rw[hk]at HS2;obtain⟨m0,hm0⟩: ∃m0,MO.toNat=m0:=⟨_,rfl⟩
    rw[hm0]at hkl;have hmx:max MO 0=(m0:Int):=by omega
    have hmn:min (m0:Int) nr=(k:Int):=by omega
    have hkd:=HS6.out.le;rw[Hnr.out]at hkd;have hkd2:k<=d:=by omega
    have hkr:k<=nr:=by omega
    have hk9:k<=9223372036854775807:=by have hm2:=HS6.out.max;simp[maxLen]at hm2;omega
    have Hbk:=G hk;have HMk:=G (HMay.out _ M g1 _ k hk9 HB4.out);have HBn:=G (show bk=[]\/0<k from by rcases bk with _|⟨x,y⟩;exact .inl rfl;right;rw[<-hk];simp);clear hbk hk hkl hm0 HMo HMay hkd;obtain⟨mb,hmb⟩: ∃mb,fK sz ad k=mb:=⟨_,rfl⟩
    have HIn:=G (fun(h:mb=true) (hk:0<k)=>iE (hmb.trans h) hk);rw[hmb]at HS2 HMk;clear hmb
    cases mb with
    |false=>
     have HE:=G (show RES= .error ⟨2,0,0,0,0,[],u+1⟩ by rw[HS2.out,if_pos rfl]);clear HS2 HIn;go_wp2_with (first|(go_at_call 88;refine HMk.out.mono ?_;rintro e w1 ⟨rfl,rfl⟩;clear HMk ct rc)|(go_at_call 89;refine(HEnd.out _ _ _ 2 _ _ _ _ _ _ HB4.out).mono ?_;rintro e w1 ⟨rfl,hb1,hm1⟩;have HB5:=G hb1;have HM5:=G hm1;clear HEnd hb1 hm1));go_ret;exact⟨HM4.out.trans HM5.out,f' HB5.out HE.out⟩
    |true=>
     have HE:=G (show RES= .ok ⟨jS M ad.toNat bk,g1,u+1⟩ by rw[HS2.out,if_neg (by decide)]);clear HS2 HEnd;by_cases k0:0<k
     ·obtain⟨i0,i1⟩:=HIn.out rfl k0;obtain⟨q,rfl⟩:=aR i0;simp only[bP]at HE;have hk1:(0:Int)<k:=by omega
      clear HIn HBn
      go_upto_region 31 with(go_at_call 88;refine HMk.out.mono ?_;rintro e w1 ⟨rfl,rfl⟩;clear HMk)
      have hsl:=fun w=>Ew b q (by omega) w;refine ay 7 1 [] mixed (by kernel_rfl) trivial ?_;repeat (refine sx ?_ (fun w1 hU=> ?_) ?_;rotate_left;(focus have ct:=(tc1.out.ext hU.un).cell;clear hU;go_simp<;>with_reducible rfl);simp only[bH,bG,bF,bE,bD])
      intro w5 hw5 hp;have hX5:=G hw5.un;clear hp hw5;simp only[ac,aq];have HB5:=G (HB4.out.ext hX5.out);have HS7:=G (HSb2.out.ext hX5.out);refine lA rfl _ _ rfl HB5.out q _ _ rfl B d k bk Hbk.out rfl HS7.out (by omega) (by omega) fun w7 v7 hb7 hm7 hs7=> ?_;have HB7:=G hb7;have HM7:=G ((HM4.out.trans (cE (S:=fun k=>k=b) hX5.out)).trans hm7);clear hb7 hm7 hs7 ct rc hsl;go_wp2_with fail;go_ret;refine⟨HM7.out,?_⟩;rw[HE.out];exact⟨rfl,HB7.out⟩
     ·have hbn:bk=[]:=by rcases HBn.out with h|h;exact h;omega
      obtain rfl:k=0:=by omega
      have HE2:=G (show RES= .ok ⟨M,g1,u+1⟩ by rw[HE.out,hbn,rZ]);clear HIn HBn HE;go_wp2_with (go_at_call 88;refine HMk.out.mono ?_;rintro e w1 ⟨rfl,rfl⟩;clear HMk);go_ret;refine⟨HM4.out,?_⟩;rw[HE2.out];exact⟨rfl,HB4.out⟩
end
section
open Go.RowKit
theorem CH {w:World} {b:Nat} {M:jN} {sz:Int} {g:Rg} {rv:Value} {ol:List Value} (hF:FT w) (h:RB w b M sz g rv ol):0≠b:=by
 rintro rfl;obtain⟨t,fr,hf⟩:=hF;have h2:some _=some _:=hf.symm.trans h;injection h2 with h2;injection h2 with h2 _ _;have h3:=congrArg Array.size h2;have h4:xA.size=138:=rfl;have h5:(jU M++mn sz g rv ol).toArray.size=4096+(mn sz g rv ol).length:=by rw[eW,ab,bX]
 omega
theorem FT.mv {w w':World} {b:Nat} (hF:FT w) (hb:0≠b) (hm:Mv (fun k=>k=b) w w'):FT w':=by
 obtain⟨t,fr,h⟩:=hF;exact⟨t,fr,(hm.block _ (Array.getElem?_eq_some_iff.1 h).1 hb).trans h⟩
def uZ (s:Ru) (D:Option cQ):Int:=match uD s.g D with
 |none=>0
 |some (a,n,_)=>if n=4 then xG s.m a.toNat else(s.m a.toNat).toNat
def CA (s:Ru) (D:Option cQ) (v:Int):jN:=match uD s.g D with
 |none=>s.m
 |some (a,n,wr)=>if wr=true then jS s.m a.toNat ((j4 v).take n.toNat)else s.m
def Ce (sz:Nat) (s:Ru) (D:Option cQ):Bool:=match uD s.g D with
 |none=>false
 |some (a,n,_)=> !(fK sz a n.toNat)
theorem uO (sz:Nat) (R:Rs) (s:Ru):ie sz R s=if s.g.pc.tmod 4≠0\/fK sz s.g.pc 4=false then .error s.fails
  else if Ce sz s (p5 s)=true then .error s.fails
  else kP sz R s (mC s.g (uZ s (p5 s)) (p5 s)) (CA s (p5 s) (mC s.g (uZ s (p5 s)) (p5 s)).2.1):=by
 unfold ie Ce uZ CA;split
 ·rfl
 ·cases h:uD s.g (p5 s)with
  |none=>simp
  |some p=>
   obtain⟨a,n,wr⟩:=p;simp only
   cases h2:fK sz a n.toNat<;>simp
theorem E8 {g:Rg} {b0 b1 b2 b3:UInt8} {a n:Int} {wr:Bool} (hR:md g) (h:uD g (eO b0 b1 b2 b3)=some (a,n,wr)):(-5000000000<=a/\a<=5000000000)/\(n=1\/n=4):=by
 cases hd:eO b0 b1 b2 b3 with
 |none=>rw[hd]at h;simp[uD]at h
 |some x=>
  have hB:=(oF hd).c;have hr:=hR x.b.toNat;rw[hd]at h;unfold uD at h;simp only at h;split at h
  ·cases h
  ·rename_i h2;simp only[f6,iL]at h;obtain⟨rfl,rfl,_⟩:=h;have hb:(-5000000000<=(bL g x).1/\(bL g x).1<=5000000000)/\((bL g x).2=0\/(bL g x).2=1\/(bL g x).2=4):=by
    unfold bL;split
    ·exact⟨by simp only;omega,by simp⟩
    ·split
     ·exact⟨by simp only;omega,by simp⟩
     ·simp
   exact⟨hb.1,by omega⟩
theorem Gu {w W:World} {c1 c2 c:Array Value} {t1 t2:TypeId} (h:((w.alloc (.cells c1 t1)).alloc (.cells c2 t2)).setRow w.heap.size c=W):au w W/\Hid (aP W w.heap.size t1 c)/\Hid (aP W (w.heap.size+1) t2 c2)/\Hid (W.heap.size=w.heap.size+1+1):=by
 obtain⟨hE,b1,b2,s⟩:=E6 (w:=w) (c1:=c1) (t1:=t1) (c2:=c2) (t2:=t2) rfl;obtain⟨q1,q2,q3,q4⟩:=oQ h b1;exact⟨(q4 w (G hE) (ah _)).out,q1,q3 _ _ _ (by omega) b2,G (q2.out.trans s.out)⟩
theorem zx {g:Rg} {ld:Int} {D:Option cQ} (hR:md g):(mC g ld D).2.2.kind=0\/((mC g ld D).2.2.kind=1/\DY (mC g ld D).2.2)\/(mC g ld D).2.2.kind=2:=by
 unfold mC;split
 ·exact .inr (.inr rfl)
 repeat' split
 all_goals first|exact .inl rfl|exact .inr (.inr rfl)|exact .inr (.inl ⟨rfl,hR 1,hR 2,hR 3,hR 4,hR 5,hR 6⟩)
theorem E7 (o:Option (Int×Int×Bool)): ∃ca cn cw ck,AA o= .tuple #[.int .i64 ca, .int .i64 cn, .bool cw, .bool ck]/\o=(if ck=true then some (ca,cn,cw)else none)/\(ck=false->cw=false):=by
 rcases o with _|⟨a,n,wr⟩
 ·exact⟨0,0,false,false,rfl,rfl,fun _=>rfl⟩
 ·exact⟨a,n,wr,true,rfl,rfl,fun h=>(by cases h)⟩
theorem yi (b:Nat) (M:jN) (sz:Nat) (g:Rg) (rv:Value) (u:Nat) (R:Rs) (w:World) (h:RB w b M sz g rv (oz u)) (hF:FT w) (hR:iT w (fun k=>k≠b) rv R) (hu:u<=R.length) (hl:R.length<=1000000000) (hz:sz<=4096) (hG:md g) (hpc: -5000000000<=g.pc/\g.pc<=5000000000):
  Calls prog 45 #[.pointer (some ⟨b,0,none⟩)] w fun e w'=>Mv (fun k=>k=b) w w'/\D0 b sz rv (ie sz R ⟨M,g,u⟩) e w':=by
 have hFb:=CH hF h;have HS:=G (uO sz R ⟨M,g,u⟩);have HFl:=G (show Ru.fails ⟨M,g,u⟩=⟨2,0,0,0,0,[],u⟩from rfl);simp only[HFl.out]at HS;generalize ie sz R ⟨M,g,u⟩=RES at*;have HEnd:=G (fun(W:World) (M:jN) (g:Rg) (z:Int) o1 o2 o3 o4 o5 (u:Nat) (hb:RB W b M sz g rv [.int .i64 0,o1,o2,o3,o4,o5, .int .i64 (u:Int)])=>ve b M sz g rv _ _ _ _ _ _ _ z W hb);have HMay:=G (fun(W:World) (M:jN) (g:Rg) ol (a:Int) (n:Nat) (ha: -10000000000<=a/\a<=10000000000) (hn:n<=9223372036854775807) (hb:RB W b M sz g rv ol)=>uX b M sz g rv ol a n ha hn hz W hb);have HW:=G h;have HF:=G hF;have HRw:=G hR;have HSys:=G (fun(W:World) (M:jN) (g:Rg) (t:rp) (hb:RB W b M sz g rv (oz u)) (hR:iT W (fun k=>k≠b) rv R) (ht:DY t)=>tL b M sz g rv u R t W hb hR hu hl hz ht);have HGk:=G hG;have HZ:=G hz;clear h hF hR hz hG hu hl;obtain⟨p0,p1⟩:=hpc;obtain⟨T,hT⟩: ∃T,g.pc.tmod 4=T:=⟨_,rfl⟩
 have cp:=HW.out.pc;have HM4:=G (HMay.out w M g _ g.pc 4 (by omega) (by decide) HW.out);obtain⟨mb,hmb⟩: ∃mb,fK sz g.pc 4=mb:=⟨_,rfl⟩
 have HIn:=G (fun(h:mb=true)=>iE (hmb.trans h) (by decide:0<4));simp only[hT,hmb]at HS HM4;have HT:=G hT;obtain⟨pc,hpe⟩: ∃pc,g.pc=pc:=⟨_,rfl⟩
 have HPe:=G hpe;rw[hpe]at cp HM4 hT HIn p0 p1;clear hmb hpe;go_enter func45,ntmps45;by_cases hT0:T=0
 rotate_left
 ·have HE:=G (show RES= .error ⟨2,0,0,0,0,[],u⟩ by rw[HS.out,if_pos (.inl hT0)]);have hT1:(T !=0)=true:=by simp[hT0]
  clear HS HM4 HMay HSys;go_wp2_with (go_at_call 89;refine(HEnd.out _ _ _ 2 _ _ _ _ _ _ HW.out).mono ?_;rintro e w1 ⟨rfl,hb1,hm1⟩;have HB1:=G hb1;have HM1:=G hm1;clear HEnd cp hb1 hm1);go_ret;exact⟨HM1.out,f' HB1.out HE.out⟩
 subst hT0
 cases mb with
 |false=>
  have HE:=G (show RES= .error ⟨2,0,0,0,0,[],u⟩ by rw[HS.out,if_pos (.inr rfl)]);clear HS HMay HSys;go_wp2_with (first|(go_at_call 88;refine HM4.out.mono ?_;rintro e w1 ⟨rfl,rfl⟩;clear HM4)|(go_at_call 89;refine(HEnd.out _ _ _ 2 _ _ _ _ _ _ HW.out).mono ?_;rintro e w1 ⟨rfl,hb1,hm1⟩;have HB1:=G hb1;have HM1:=G hm1;clear HEnd cp hb1 hm1));go_ret;exact⟨HM1.out,f' HB1.out HE.out⟩
 |true=>
  obtain⟨i0,i1⟩:=HIn.out rfl;obtain⟨q,rfl⟩:=aR i0;rw[if_neg (by simp)]at HS;clear HIn;have hq:q+4<=4096:=by omega
  have hwq:IntKind.i64.wrap ((q:Int)+4)=q+4:=by simp[IntKind.wrap,IntKind.signed,IntKind.bits];omega
  have hsl: ∀w,(Instr.sliceAt 111 (.pointer (some ⟨b,0,none⟩)) (some (.int .i64 (q:Int))) (some (.int .i64 ((q:Int)+4))) none).run prog w= .ok (.slice (some ⟨b,q,none⟩) 4 (4096-q)) w:=fun w=>Ez b q 4 (by omega) (by omega) w;have HDn:=G (show p5 ⟨M,g,u⟩=eO (M q) (M (q+1)) (M (q+2)) (M (q+3)) by unfold p5;simp only[HPe.out,bP]);rw[HDn.out]at HS;have HEx:=G (fun W ld (hf:FT W) (hb:RB W b M sz g rv (oz u))=>zv g b q (4096-q) (M q) (M (q+1)) (M (q+2)) (M (q+3)) ld W hf (hb.at4 q (by omega)) (by omega) (by simp only[maxLen];omega) HGk.out (by rw[HPe.out];omega));have HOk:=G (fun ld=>zy (b0:=M q) (b1:=M (q+1)) (b2:=M (q+2)) (b3:=M (q+3)) (ld:=ld) HGk.out (by rw[HPe.out];omega));have HAb:=G (fun a n wr=> @E8 g (M q) (M (q+1)) (M (q+2)) (M (q+3)) a n wr HGk.out);obtain⟨ca,cn,cw,ck,hv,hac,hcw⟩:=E7 (uD g (eO (M q) (M (q+1)) (M (q+2)) (M (q+3))));have HAc:=G (fun W (hf:FT W) (hb:RB W b M sz g rv (oz u))=>by have:=uC g b q (4096-q) (M q) (M (q+1)) (M (q+2)) (M (q+3)) W hf (hb.at4 q (by omega)) (by omega) (by simp only[maxLen];omega) HGk.out;rw[hv]at this;exact this);generalize eO (M q) (M (q+1)) (M (q+2)) (M (q+3))=D at*;have HAL:=G hac;have HCW:=G hcw;clear HDn hv hac hcw
  go_upto_region 5 with(go_at_call 88;refine HM4.out.mono ?_;rintro e w1 ⟨rfl,rfl⟩;clear HM4)
  go_upto_region 7 with(first|(refine wpList_load_mid rfl 109 _ rfl b 4097 rfl g.cs.toList _ HW.out.regs underlying109 rfl (by kernel_rfl) ?_)|(go_at_call 90;refine(HAc.out _ HF.out HW.out).mono ?_;rintro e w1 ⟨rfl,hE⟩;have HE1:=G hE;clear HAc hE))
  have HB1:=G (HW.out.ext HE1.out);clear cp hsl
  go_upto_if 47 with fail
  go_cut [9]from 48 to 74 (fun s9 wx=> ∃ld,s9= .int .i64 ld/\Hid (ld=uZ ⟨M,g,u⟩ D)/\Hid (au w wx)/\Hid (Ce sz ⟨M,g,u⟩ D=false))
  case first=>
   cases ck with
   |false=>
    have HA:=G (show uD g D=none by rw[HAL.out];rfl);go_wp2_with fail
    go_meet
    exact⟨0,rfl,G (by unfold uZ;simp only;rw[HA.out]),HE1,G (by unfold Ce;simp only;rw[HA.out])⟩
   |true=>
    have HA:=G (show uD g D=some (ca,cn,cw) by rw[HAL.out];rfl);obtain⟨⟨a0,a1⟩,hn⟩:=HAb.out ca cn cw HA.out;have HMn:=G (fun n hn=>HMay.out w1 M g _ ca n (by omega) hn HB1.out);clear HAL HAb HMay;rcases hn with rfl|rfl
    ·have HM1:=G (HMn.out 1 (by decide));obtain⟨mb,hmb⟩: ∃mb,fK sz ca 1=mb:=⟨_,rfl⟩
     have HIn:=G (fun(h:mb=true)=>iE (hmb.trans h) (by decide:0<1));have HBd:=G (show Ce sz ⟨M,g,u⟩ D= !mb by unfold Ce;simp only;rw[HA.out];simp only[Int.reduceToNat,hmb]);rw[hmb]at HM1;clear hmb HMn
     cases mb with
     |false=>
      have HE:=G (show RES= .error ⟨2,0,0,0,0,[],u⟩ by rw[HS.out,if_pos (by rw[HBd.out];rfl)]);clear HS HSys;go_wp2_with (first|(go_at_call 88;refine HM1.out.mono ?_;rintro e w2 ⟨rfl,rfl⟩;clear HM1)|(go_at_call 89;refine(HEnd.out _ _ _ 2 _ _ _ _ _ _ HB1.out).mono ?_;rintro e w2 ⟨rfl,hb1,hm1⟩;have HB2:=G hb1;have HM2:=G hm1;clear HEnd hb1 hm1));go_ret;exact⟨(cE HE1.out).trans HM2.out,f' HB2.out HE.out⟩
     |true=>
      obtain⟨j0,j1⟩:=HIn.out rfl;obtain⟨a,rfl⟩:=aR j0;have ha1:(a:Int)<4096:=by omega
      have ha2:a<4096:=by omega
      have cm:=HB1.out.mem a ha2;have HL:=G (show uZ ⟨M,g,u⟩ D=((M a).toNat:Int) by unfold uZ;simp only;rw[HA.out];simp);have Hwm:=G (show wrap64 ((M a).toNat:Int)=(M a).toNat by have:=(M a).toNat_lt;unfold wrap64;omega);go_wp2_with (go_at_call 88;refine HM1.out.mono ?_;rintro e w2 ⟨rfl,rfl⟩;clear HM1)
      go_meet
      exact⟨_,rfl,G (Hwm.out.trans HL.out.symm),HE1,G (by rw[HBd.out];rfl)⟩
    ·have HM1:=G (HMn.out 4 (by decide));obtain⟨mb,hmb⟩: ∃mb,fK sz ca 4=mb:=⟨_,rfl⟩
     have HIn:=G (fun(h:mb=true)=>iE (hmb.trans h) (by decide:0<4));have HBd:=G (show Ce sz ⟨M,g,u⟩ D= !mb by unfold Ce;simp only;rw[HA.out];simp only[Int.reduceToNat,hmb]);rw[hmb]at HM1;clear hmb HMn
     cases mb with
     |false=>
      have HE:=G (show RES= .error ⟨2,0,0,0,0,[],u⟩ by rw[HS.out,if_pos (by rw[HBd.out];rfl)]);clear HS HSys;go_wp2_with (first|(go_at_call 88;refine HM1.out.mono ?_;rintro e w2 ⟨rfl,rfl⟩;clear HM1)|(go_at_call 89;refine(HEnd.out _ _ _ 2 _ _ _ _ _ _ HB1.out).mono ?_;rintro e w2 ⟨rfl,hb1,hm1⟩;have HB2:=G hb1;have HM2:=G hm1;clear HEnd hb1 hm1));go_ret;exact⟨(cE HE1.out).trans HM2.out,f' HB2.out HE.out⟩
     |true=>
      obtain⟨j0,j1⟩:=HIn.out rfl;obtain⟨a,rfl⟩:=aR j0;have ha1:(a:Int)<4096:=by omega
      have ha2:a+4<=4096:=by omega
      have cm:=HB1.out.mem a (by omega);have hwa:IntKind.i64.wrap ((a:Int)+4)=a+4:=by simp[IntKind.wrap,IntKind.signed,IntKind.bits];omega
      have hsl: ∀w,(Instr.sliceAt 111 (.pointer (some ⟨b,0,none⟩)) (some (.int .i64 (a:Int))) (some (.int .i64 ((a:Int)+4))) none).run prog w= .ok (.slice (some ⟨b,a,none⟩) 4 (4096-a)) w:=fun w=>Ez b a 4 (by omega) (by omega) w;have HL:=G (show uZ ⟨M,g,u⟩ D=xG M a by unfold uZ;simp only;rw[HA.out];simp);have HWd:=G (wU b a (4096-a) (M a) (M (a+1)) (M (a+2)) (M (a+3)) w1 (HB1.out.at4 a (by omega)) (by omega) (by simp only[maxLen];omega));go_wp2_with (first|(go_at_call 88;refine HM1.out.mono ?_;rintro e w2 ⟨rfl,rfl⟩;clear HM1)|(go_at_call 91;refine HWd.out.mono ?_;rintro e w2 ⟨rfl,hE⟩;have HE2:=G hE;clear HWd hE))
      go_meet
      exact⟨_,rfl,G HL.out.symm,G (HE1.out.trans HE2.out),G (by rw[HBd.out];rfl)⟩
  case rest=>
   obtain⟨ld,rfl,HLd,HE2,HBf⟩:=hcut;rw[HBf.out,if_neg (by decide),<-HLd.out]at HS;obtain⟨HRg,HSt⟩:=HOk.out ld;have HRgk:=G HRg;have HB2:=G (HW.out.ext HE2.out);have HF2:=G (HF.out.ext HE2.out);have HXc:=G (HEx.out wc ld HF2.out HB2.out);have HXk:=G (zx (ld:=ld) (D:=D) HGk.out);generalize mC g ld D=X at*;obtain⟨g1,sv,t⟩:=X;obtain⟨kd,num,a0,a1,a2,ad,ln⟩:=t;simp only[rp.val]at HS HXc HXk HRgk HSt;clear HRg HOk HEx HLd HE1 HB1 HMay;have hbw:b<w.heap.size:=oX HW.out
   go_upto_region 14 with(first|(refine wpList_load_mid rfl 109 _ rfl b 4097 rfl g.cs.toList _ HB2.out.regs underlying109 rfl (by kernel_rfl) ?_)|(go_at_call 92;refine HXc.out.mono ?_;rintro e w3 ⟨rfl,hE⟩;have HE3:=G (HE2.out.trans hE);have HB3:=G (HB2.out.ext hE);have hz3:=fL HE3.out;clear HXc hE HB2 HE2 HF2)|(refine wpList_store_row rfl 109 _ _ rfl _ _ rfl rfl _ _ ((aw w3 _ _).alloc _) (by kernel_rfl) rfl (eT _) ?_;generalize hW:World.setRow _ _ _=W5;obtain⟨hE5,rb,tb,_⟩:=Gu hW;have HB5:=G (HB3.out.ext hE5);have HE5:=G (HE3.out.trans hE5);clear hW hE5 HB3 HE3)|(refine wpList_store_row rfl 181 _ _ rfl _ _ rfl rfl _ _ tb.out (by kernel_rfl) rfl (by simp[Value.oneCell']) ?_;generalize hW:World.setRow W5 _ _=W6;obtain⟨tb6,_,hs,hx⟩:=oQ hW tb;have rb6:=hs _ _ _ (by omega) rb;have HE6:=hx _ HE5 (by omega);have HB6:=G (show RB W6 b M sz g rv (oz u)from hs _ _ _ (by omega) HB5);clear hW hs hx HE5 HB5 rb tb))
   have ct:=tb6.out.cell;have HEn:=G (show kP sz R ⟨M,g,u⟩ (g1,sv,⟨kd,num,a0,a1,a2,ad,ln⟩) (CA ⟨M,g,u⟩ D sv)=if kd=2 then .error ⟨2,0,0,0,0,[],u⟩else if kd=1 then qo sz R ⟨kd,num,a0,a1,a2,ad,ln⟩ ⟨CA ⟨M,g,u⟩ D sv,g1,u⟩else .ok ⟨CA ⟨M,g,u⟩ D sv,g1,u⟩from rfl);rw[HEn.out]at HS;clear HEn;by_cases hk2:kd=2
   ·subst hk2;have HE:=G (show RES= .error ⟨2,0,0,0,0,[],u⟩ by rw[HS.out,if_pos rfl]);clear HS HSys HXk;go_wp2_with (go_at_call 89;refine(HEnd.out _ _ _ 2 _ _ _ _ _ _ HB6.out).mono ?_;rintro e w7 ⟨rfl,hb1,hm1⟩;have HB7:=G hb1;have HM7:=G hm1;clear HEnd ct hb1 hm1);go_ret;exact⟨(cE HE6.out).trans HM7.out,f' HB7.out HE.out⟩
   rw[if_neg hk2]at HS;have hk3:(kd==2)=false:=beq_eq_false_iff_ne.2 hk2;have hz6:=fL HE6.out
   go_upto_region 17 with(first|(refine bU rfl 109 _ rfl _ rfl _ (cP rb6) ?_)|(refine wpList_store_mid rfl 109 _ _ rfl b 4097 g1.cs rfl rfl (HB6.out.there rfl 4097 _ (show 4097+17<=4122 by decide)) (by kernel_rfl) (eT _) ?_;obtain⟨hB7,hM7,_⟩:=HB6.out.setRegs g1;have HB7:=G hB7;have HM7:=G ((cE HE6.out).trans hM7);have tb7:=G (mP hM7 tb6.out (by omega));generalize World.setCells W6 b 4097 g1.cs.toList=W7 at*;clear hB7 hM7 tb6 rb6 HB6 ct;(try go_simp)))
   clear hk3;obtain⟨MM,hMM⟩: ∃MM,CA ⟨M,g,u⟩ D sv=MM:=⟨_,rfl⟩
   have HMM:=G hMM;rw[hMM]at HS;clear hMM
   go_cut [98]from 95 to 97 (fun s98 wx=> ∃kb:Bool,s98= .bool kb/\Hid ((ck&&cw)=kb)/\wx=W7)
   case first=>
    cases ck<;>cases cw;all_goals
     go_wp2_with fail
     go_meet
     exact⟨_,rfl,G rfl,rfl⟩
   obtain⟨kb,rfl,HKB,rfl⟩:=hcut
   go_upto_if 98 with fail
   have hz7:wc.heap.size=wc.heap.size:=rfl
   go_cut []from 99 to 109 (fun wx=>Hid (RB wx b MM sz g1 rv (oz u))/\Hid (Mv (fun k=>k=b) wc wx))
   case first=>
    cases kb with
    |false=>
     have HN:=G (show MM=M by
      rw[<-HMM.out];unfold CA;simp only;rw[HAL.out]
      cases ck with
      |false=>rfl
      |true=>
       have:cw=false:=HKB.out
       rw[this];rfl)
     go_wp2_with fail
     go_meet
     exact⟨by rw[HN.out];exact HB7,G (fA _ _)⟩
    |true=>
     have hkb:=HKB.out;rw[ak]at hkb;obtain⟨rfl,rfl⟩:=hkb;have HA:=G (show uD g D=some (ca,cn,true) by rw[HAL.out];rfl);obtain⟨⟨a0',a1'⟩,hn⟩:=HAb.out ca cn true HA.out;have hmy:fK sz ca cn.toNat=true:=by
      have:=HBf.out;unfold Ce at this;simp only at this;rw[HA.out]at this;simpa using this
     obtain⟨j0,j1⟩:=iE hmy (by omega);obtain⟨a,rfl⟩:=aR j0;have HN:=G (show MM=jS M a ((j4 sv).take cn.toNat) by rw[<-HMM.out];unfold CA;simp only;rw[HA.out];simp);have HPt:=G (fun W=>Bb sv W);have hwl:(j4 sv).length=4:=rfl;clear HMM HKB HAL HBf hmy HA HS HSys HAb HXk;rcases hn with rfl|rfl
     ·have hwa:IntKind.i64.wrap ((a:Int)+1)=a+1:=by simp[IntKind.wrap,IntKind.signed,IntKind.bits];omega
      have hsl: ∀w,(Instr.sliceAt 111 (.pointer (some ⟨b,0,none⟩)) (some (.int .i64 (a:Int))) (some (.int .i64 ((a:Int)+1))) none).run prog w= .ok (.slice (some ⟨b,a,none⟩) 1 (4096-a)) w:=fun w=>Ez b a 1 (by omega) (by omega) w
      go_upto_region 18 with fail
      refine ay 10 9 [(9,fun v=> ∃gb,v= .slice (some ⟨gb,0,none⟩) 4 4,fun v W=> ∃gb,v= .slice (some ⟨gb,0,none⟩) 4 4/\Sl W (some ⟨gb,0,none⟩) 4 (j4 sv))] mixed (by kernel_rfl) ⟨fun v W W' ⟨gb,e,hs⟩ hE=>⟨gb,e,hs.ext hE⟩,trivial⟩ ?_;repeat (refine sx ?_ (fun w1 hU=> ?_) ?_;rotate_left;(focus clear hU;go_simp<;>with_reducible rfl);simp only[bH,bG,bF,bE,bD])
      refine fg _ _ (by rfl) rfl ⟨_,0,rfl⟩ (by simp) (fun w6 hU hp K hK=> ?_) ?_
      ·clear hp hU;go_simp;refine(HPt.out w6).mono ?_;rintro e w7 ⟨rfl,hE,hs⟩;exact hK _ _ hE ⟨_,rfl⟩ ⟨_,rfl,hs⟩
      rintro _ ⟨gb,rfl⟩;simp only[bH,bG,bF,bE,bD];intro w5 hw5 hp;obtain⟨gb',e,hs5⟩:=hp _ (.head _);injection e with e;injection e with e;injection e with e;subst e;have hX5:=G hw5.un;clear hp hw5;simp only[ac,aq];refine jp rfl _ _ rfl (HB7.out.ext hX5.out) a 1 _ rfl _ 4 4 (j4 sv) hwl rfl hs5 (by rw[aW,hwl];simp;omega) fun w8 v8 hb8 hm8 _=> ?_;have HB8:=G hb8;have HM8:=G ((cE (S:=fun k=>k=b) hX5.out).trans hm8);clear hb8 hm8;go_wp2_with fail
      go_meet
      exact⟨by rw[HN.out];exact HB8,HM8⟩
     ·have hwa:IntKind.i64.wrap ((a:Int)+4)=a+4:=by simp[IntKind.wrap,IntKind.signed,IntKind.bits];omega
      have hsl: ∀w,(Instr.sliceAt 111 (.pointer (some ⟨b,0,none⟩)) (some (.int .i64 (a:Int))) (some (.int .i64 ((a:Int)+4))) none).run prog w= .ok (.slice (some ⟨b,a,none⟩) 4 (4096-a)) w:=fun w=>Ez b a 4 (by omega) (by omega) w
      go_upto_region 18 with fail
      refine ay 10 9 [(9,fun v=> ∃gb,v= .slice (some ⟨gb,0,none⟩) 4 4,fun v W=> ∃gb,v= .slice (some ⟨gb,0,none⟩) 4 4/\Sl W (some ⟨gb,0,none⟩) 4 (j4 sv))] mixed (by kernel_rfl) ⟨fun v W W' ⟨gb,e,hs⟩ hE=>⟨gb,e,hs.ext hE⟩,trivial⟩ ?_;repeat (refine sx ?_ (fun w1 hU=> ?_) ?_;rotate_left;(focus clear hU;go_simp<;>with_reducible rfl);simp only[bH,bG,bF,bE,bD])
      refine fg _ _ (by rfl) rfl ⟨_,0,rfl⟩ (by simp) (fun w6 hU hp K hK=> ?_) ?_
      ·clear hp hU;go_simp;refine(HPt.out w6).mono ?_;rintro e w7 ⟨rfl,hE,hs⟩;exact hK _ _ hE ⟨_,rfl⟩ ⟨_,rfl,hs⟩
      rintro _ ⟨gb,rfl⟩;simp only[bH,bG,bF,bE,bD];intro w5 hw5 hp;obtain⟨gb',e,hs5⟩:=hp _ (.head _);injection e with e;injection e with e;injection e with e;subst e;have hX5:=G hw5.un;clear hp hw5;simp only[ac,aq];refine jp rfl _ _ rfl (HB7.out.ext hX5.out) a 4 _ rfl _ 4 4 (j4 sv) hwl rfl hs5 (by rw[aW,hwl];simp;omega) fun w8 v8 hb8 hm8 _=> ?_;have HB8:=G hb8;have HM8:=G ((cE (S:=fun k=>k=b) hX5.out).trans hm8);clear hb8 hm8;go_wp2_with fail
      go_meet
      exact⟨by rw[HN.out];exact HB8,HM8⟩
   case rest=>
    obtain⟨HB8,HM8⟩:=hcut;have tb8:=G (mP HM8.out tb7.out (by omega));have HM9:=G (HM7.out.trans HM8.out);have ct:=tb8.out.cell;clear HB7 HM7 HM8 tb7 HMM HAL HCW HEnd;rcases HXk.out with hk|⟨hk,ht⟩|hk
    ·have hk':kd=0:=hk;subst hk';have HE:=G (show RES= .ok ⟨MM,g1,u⟩ by rw[HS.out,if_neg (by decide)]);clear HS HSys HXk;go_wp2_with fail;go_ret;exact⟨HM9.out,by rw[HE.out];exact⟨rfl,HB8.out⟩⟩
    ·have hk':kd=1:=hk;subst hk';have HE:=G (show RES=qo sz R ⟨1,num,a0,a1,a2,ad,ln⟩ ⟨MM,g1,u⟩ by rw[HS.out,if_pos rfl]);have HSy:=G (HSys.out wc MM g1 _ HB8.out (HRw.out.keep (HM9.out.keepP fun k h _=>h)) ht);rw[<-HE.out]at HSy;simp only[rp.val]at HSy;clear HS HSys HXk HE
     cases RES with
     |ok s=>
      go_wp2_with (go_at_call 94;refine HSy.out.mono ?_;rintro e w9 ⟨hm,rfl,hr⟩;have HMf:=G hm;have HRf:=G hr;clear HSy hm hr ct);go_ret;exact⟨HM9.out.trans HMf.out,rfl,HRf.out⟩
     |error o=>
      go_wp2_with (go_at_call 94;refine HSy.out.mono ?_;rintro e w9 ⟨hm,rfl,hr⟩;have HMf:=G hm;have HRf:=G hr;clear HSy hm hr ct);go_ret;exact⟨HM9.out.trans HMf.out,rfl,HRf.out⟩
    ·exact absurd hk hk2
end
end Go.Proofs.YtoedmpgicdekmaaGreatDoor
