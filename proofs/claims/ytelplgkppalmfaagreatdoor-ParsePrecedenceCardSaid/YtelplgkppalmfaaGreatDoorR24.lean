/-
  Parts of the proof: VaF VaG.
-/
import Derived.Test.YtelplgkppalmfaaGreatDoorR22
set_option maxRecDepth 100000
set_option maxHeartbeats 8000000
set_option linter.unusedVariables false
namespace Go.Proofs.YtelplgkppalmfaaGreatDoor
open Go.Proofs.Tryz
open Go.RowKit
theorem run_append_zeros {P:Program} (t u ty e:TypeId) (i:TypeInfo) (z:Value) (ht:P.underlying t=some (.slice e)) (hu:P.underlying u=some (.int .i64)) (hi:P.info? e=some i) (hz:i.zero=some z) (w:World) (n:Nat) (h0:0<n) (hs:0<i.size)
  (h63:(n:Int)<=1073741824) (h48:n*i.bytes<=281474976710656):
  (Builtin.append_ #[t,u] ty #[.slice none 0 0, .int .i64 n]).run P w=
   .ok (.slice (some ⟨w.heap.size,0,none⟩) n (grownCap w n 0 e)) (w.drew.alloc (.cells (Builtin.zeroCells z.cells n++Builtin.zeroCells z.cells (grownCap w n 0 e-n)) e)):=by
 have hn:n≠0:=by omega
 have h1:IntKind.i64.wrap (n:Int)=n:=by simp[IntKind.wrap,IntKind.signed,IntKind.bits];omega
 have h2: ¬(n:Int)<0:=by omega
 have h63': ¬(9223372036854775807<(n:Int)):=by omega
 have h48': ¬(281474976710656<Builtin.nextslicecap n 0*i.bytes):=by rw[nextslicecap_zero h0];omega
 have h48i: ¬(281474976710656<(n:Int)*(i.bytes:Int)):=by
  have:(n:Int)*(i.bytes:Int)=((n*i.bytes:Nat):Int):=by simp
  omega
 simp[Builtin.append_,run_underlying ht,run_underlying hu,sizeOf,typeInfo,zeroValue,hi,hz,h1,h2,hn,h63',h48',h48i,Question.forced,run_firstCells_none,newRow,grownCap,asInt,asIntOf];intro h;exact absurd h (Nat.ne_of_gt (Nat.mul_pos h0 hs))
theorem size_zeroCells' (z:Array Value) (n:Nat):(Builtin.zeroCells z n).size=n*z.size:=by simp[Builtin.zeroCells]
theorem wpList_zeros {P:Program} {w:World} {ops:Array Oper} {rest:List Oper} {o:Oper} {a:Act} {Q:Exit->Act->World->Prop} {t u e:TypeId} {size bytes:Nat} {z:Value} (hT:RowT P t e size bytes z) (hu:P.underlying u=some (.int .i64)) (hgd:o.guard=none) (s x:Operand)
  (ho:o.op= .call {callee:= .builtin .append,args:= #[s,x],argTypes:= #[t,u]}) (base n:Nat) (hv:a.eval s= .slice none 0 0) (hx:a.eval x= .int .i64 n) (h0:0<n) (hn:n<=1073741824) (hy:bytes<=1000) (hbase:base<=w.heap.size)
  (h: ∀g cap w',w'.ownsRow base e size (.slice (some ⟨g,0,none⟩) 0 cap) 0 []->n<=cap->Ext w w'->wpList P ops Q rest (a.put o.dst (.slice (some ⟨g,0,none⟩) n cap)) w'):
  wpList P ops Q (o::rest) a w:=by
 obtain⟨i,hi,hz,hz1,hz2⟩:=info_parts hT.info;have hb:n*i.bytes<=n*1000:=Nat.mul_le_mul_left _ (by rw[hz2];exact hy);have hr:=run_append_zeros (P:=P) t u o.type e i z hT.under hu hi hz w n h0 (by rw[hz1];exact hT.pos) (by omega) (by omega);have hge:=grownCap_ge w n 0 e;have hcm:grownCap w n 0 e<=maxLen:=grownCap_le_maxLen w n 0 e (by simp only[maxLen];omega);refine wpList_plain hgd fun K hK=> ?_;unfold Oper.wp execOp;simp only[ho,resolve,invoke,builtin,Sem.run_bind,Sem.run_pure,Result.andThen_ok,List.map_toArray,List.map_cons,List.map_nil,hv,hx,hr];refine hK _ _ (h w.heap.size (grownCap w n 0 e) _ ?_ hge ((Ext.refl w).drew.alloc' _));refine World.ownsRow_made w.drew _ _ hbase hcm ?_;rw[Array.size_append,size_zeroCells',size_zeroCells',hT.cells,<-Nat.add_mul,Nat.add_sub_cancel' hge]
theorem sts_t:RowT prog 71 76 5 96 (.agg #[.int .i64 0, .string ⟨#[]⟩, .slice none 0 0, .slice none 0 0, .slice none 0 0]):=⟨underlying71,by kernel_rfl,by rfl,by decide⟩
theorem grow_any (n:Nat) (hn:n<=1073741824) (w:World):Calls prog 120 #[.slice none 0 0, .int .i64 (n:Int)] w fun e w'=>(∃A c,e= .returned (.slice A 0 c)/\w'.ownsRow w.heap.size 76 5 (.slice A 0 c) 0 [])/\Ext w w':=by
 have hn': ¬(n:Int)<0:=by omega
 have hw:wrap64 (n:Int)=n:=by simp only[wrap64];omega
 have hw2:IntKind.i64.wrap (n:Int)=n:=by simp[IntKind.wrap,IntKind.signed,IntKind.bits];omega
 rcases Nat.eq_zero_or_pos n with rfl|h0
 ·go_enter func120,ntmps120;go_wp2_with fail;go_ret;exact⟨⟨none,0,rfl,World.ownsRow_nil w _ _ 5⟩,Ext.refl w⟩
 ·have h0':(0:Int)<n:=by omega
  go_enter func120,ntmps120;go_wp2_with (at_builtin;refine wpList_zeros sts_t underlying3 rfl _ _ rfl w.heap.size n rfl rfl h0 hn (by decide) (Nat.le_refl _) ?_;intro g cap w1 hO hcap hE;have HO:=hide hO;have HE:=hide hE;clear hO hE);go_ret;exact⟨⟨_,_,rfl,HO.out⟩,HE.out⟩
theorem RdS.svs {w:World} {P:Nat->Prop} {A:Option Addr} {n c:Nat} {l:List St} (h:RdS w P (.slice A n c) l):
  ∃q:List SV,q.map (·.s)=l/\q.length=n/\(∀p,p∈q->p.ok w P)/\n<=maxLen/\(n=0\/n<=c/\ ∃b o,A=some ⟨b,o,none⟩/\b<w.heap.size/\ ∀j y,(stRow q)[j]? =some y->w.cell? ⟨b,o+j,none⟩=some y):=by
 cases h with
 |nil=>exact⟨[],rfl,rfl,fun p hp=>(by cases hp),by simp[maxLen], .inl rfl⟩
 |row b o n c xs es bs ls hP hb hn hnc hm hc he hs hl=>
  refine⟨List.ofFn (n:=l.length) (fun i=>⟨l[i],es i,bs i,ls i⟩),?_,by simpa using hn,?_,by omega, .inr ⟨hnc,b,o,rfl,hb,fun j y hj=> ?_⟩⟩
  ·apply List.ext_getElem
   ·simp
   ·intro i h1 h2;simp
  ·intro p hp;rw[List.mem_ofFn]at hp;obtain⟨i,rfl⟩:=hp;exact⟨he i i.2,hs i i.2,hl i i.2⟩
  ·have hlt:j<l.length*5:=by
    have:=(List.getElem?_eq_some_iff.1 hj).1;rw[stRow_length]at this;simpa using this
   have hi:j/5<l.length:=by omega
   have hk:j%5<5:=Nat.mod_lt _ (by omega);have hj2:j=j/5*5+j%5:=by omega
   rw[hj2,stRow_get _ (j/5) (by simpa using hi) (j%5) hk]at hj;obtain⟨c0,c1,c2,c3,c4⟩:=hc (j/5) hi;rw[hj2,<-Nat.add_assoc];simp only[List.getElem_ofFn]at hj;generalize j%5=r at*;have:r=0\/r=1\/r=2\/r=3\/r=4:=by omega
   rcases this with rfl|rfl|rfl|rfl|rfl<;>(simp only[stC,List.getElem?_cons_zero,List.getElem?_cons_succ,Option.some.injEq]at hj;subst hj;assumption)
theorem RdS.of_row {w:World} {base:Nat} {e:TypeId} {v:Value} {n:Nat} {q:List SV} {Q:Nat->Prop} (h:w.ownsRow base e 5 v n (stRow q)) (hn:q.length=n) (hQ: ∀b,base<=b->Q b) (hq: ∀p,p∈q->p.ok w Q):RdS w Q v (q.map (·.s)):=by
 rcases h.2 with⟨rfl,h0⟩|⟨g,cap,cur,rfl,hb,hg,hnc,hcm,hcs,ht⟩
 ·have:q=[]:=List.eq_nil_of_length_eq_zero (by omega);subst this;exact .nil _ _
 ·have hlt:g<w.heap.size:=(Array.getElem?_eq_some_iff.1 hg).1;have cell: ∀j y,(stRow q)[j]? =some y->w.cell? ⟨g,j,none⟩=some y:=fun j y hy=>by
   rw[cell_of_row w g j cur e (0,0) hg];rw[<-ht,List.getElem?_take]at hy;split at hy
   ·simpa using hy
   ·cases hy
  refine .row g 0 n cap _ (fun i=>if h:i<q.length then q[i].e else .slice none 0 0) (fun i=>if h:i<q.length then q[i].b else .slice none 0 0) (fun i=>if h:i<q.length then q[i].l else .slice none 0 0) (hQ _ hb) hlt (by simpa using hn) hnc hcm (fun i hi=> ?_) (fun i hi=> ?_) (fun i hi=> ?_) (fun i hi=> ?_)
  ·have hi':i<q.length:=by simpa using hi
   have r:=fun k hk=>stRow_get q i hi' k hk;have e0:(q.map (·.s))[i]=q[i].s:=by simp
   rw[e0,dif_pos hi',dif_pos hi',dif_pos hi',Nat.zero_add];exact⟨cell _ _ (r 0 (by omega)),cell _ _ (r 1 (by omega)),cell _ _ (r 2 (by omega)),cell _ _ (r 3 (by omega)),cell _ _ (r 4 (by omega))⟩
  all_goals
   have hi':i<q.length:=by simpa using hi
   have e0:(q.map (·.s))[i]=q[i].s:=by simp
   rw[e0,dif_pos hi']
  ·exact(hq _ (List.getElem_mem hi')).1
  ·exact(hq _ (List.getElem_mem hi')).2.1
  ·exact(hq _ (List.getElem_mem hi')).2.2
theorem stRow_one {q:List SV} (u:Value) (hu:u∈stRow q) (hq: ∀p,p∈q-> ∃a b c d e f g h i,p.e= .slice a b c/\p.b= .slice d e f/\p.l= .slice g h i):u.oneCell'=true:=by
 obtain⟨p,hp,hu⟩:=List.mem_flatMap.1 hu;obtain⟨a,b,c,d,e,f,g,h,i,h1,h2,h3⟩:=hq p hp;simp only[stC,h1,h2,h3,List.mem_cons,List.not_mem_nil,or_false]at hu;rcases hu with rfl|rfl|rfl|rfl|rfl<;>rfl
theorem SV.ok.forms {w:World} {P:Nat->Prop} {p:SV} (h:p.ok w P): ∃a b c d e f g h i,p.e= .slice a b c/\p.b= .slice d e f/\p.l= .slice g h i:=by
 obtain⟨a,b,h1,_⟩:=h.1.form;obtain⟨c,d,h2,_⟩:=h.2.1.form;obtain⟨e,f,h3,_⟩:=h.2.2.form;exact⟨_,_,_,_,_,_,_,_,_,h1,h2,h3⟩
theorem wpList_appS {P:Program} {w:World} {ops:Array Oper} {rest:List Oper} {o:Oper} {a:Act} {Q:Exit->Act->World->Prop} {t e:TypeId} {bytes:Nat} {z:Value} (hT:RowT P t e 5 bytes z) (hgd:o.guard=none) (s x:Operand)
  (ho:o.op= .call {callee:= .builtin .append,args:= #[s,x],argTypes:= #[t,t]}) (base:Nat) (A:Option Addr) (n c:Nat) (xs:List Value) (hv:a.eval s= .slice A n c) (hown:w.ownsRow base e 5 (.slice A n c) n xs)
  (B:Option Addr) (m d:Nat) (q:List SV) (R:Nat->Prop) (hx:a.eval x= .slice B m d) (hq:q.length=m) (hok: ∀p,p∈q->p.ok w R)
  (hcs:m=0\/m<=d/\ ∃b o,B=some ⟨b,o,none⟩/\b<w.heap.size/\ ∀j y,(stRow q)[j]? =some y->w.cell? ⟨b,o+j,none⟩=some y) (hb:n+m<=1073741824) (hy:bytes<=1000) (hbase:base<=w.heap.size) (hn1:n<=c)
  (h: ∀C k w',w'.ownsRow base e 5 (.slice C (n+m) k) (n+m) (xs++stRow q)->(∀w0,w0.heap.size<=base->Ext w0 w->Ext w0 w')->wpList P ops Q rest (a.put o.dst (.slice C (n+m) k)) w'):
  wpList P ops Q (o::rest) a w:=by
 obtain⟨i,hi,hz,hz1,hz2⟩:=info_parts hT.info;have hbl:=World.ownsRow.lt hown;have fin: ∀v' w',(Builtin.append_ #[t,t] o.type #[.slice A n c, .slice B m d]).run P w= .ok v' w'->w'.ownsRow base e 5 v' (n+m) (xs++stRow q)->w.grownBy w' (Value.ownBlock (.slice A n c))->wpList P ops Q (o::rest) a w:=by
  intro v' w' hr ho' hg;obtain⟨C,k,rfl⟩: ∃C k,v'= .slice C (n+m) k:=by
   rcases ho'.2 with⟨rfl,h0⟩|⟨g,cap,cur,rfl,_⟩
   ·exact⟨none,0,by rw[h0]⟩
   ·exact⟨_,_,rfl⟩
  refine wpList_plain hgd fun K hK=> ?_;unfold Oper.wp execOp;simp only[ho,resolve,invoke,builtin,Sem.run_bind,Sem.run_pure,Result.andThen_ok,List.map_toArray,List.map_cons,List.map_nil,hv,hx,hr];exact hK _ _ (h C k w' ho' fun w0 hw0 hE=>hE.grown hg (fun k hk=>Nat.le_trans hw0 (hbl k hk).1))
 have h1: ∀u∈stRow q,u.oneCell'=true:=fun u hu=>stRow_one u hu fun p hp=>(hok p hp).forms;rcases hcs with rfl|⟨hmd,b,o',rfl,hlt,hcell⟩
 ·have:q=[]:=List.eq_nil_of_length_eq_zero hq;subst this;rcases B with _|ad
  ·refine fin (.slice A n c) w ?_ (by simpa[stRow]using hown) (World.grownBy.refl w _)
   cases A<;>simp[Builtin.append_,run_underlying hT.under,sizeOf,typeInfo,hi,Builtin.lenOf,Builtin.firstCells,hn1,storeCells]
  ·obtain⟨v',w',hr,h2,h3,_,h5⟩:=run_append_own_at (P:=P) w base t o.type e i z 5 bytes hT.under hi hz hz1 hz2 hT.cells hT.pos _ n xs hown ad 0 d [] (by simp) (by simp) (by simp) (by simp only[maxLen];omega) (by have:(n+0)*bytes<=(n+0)*1000:=(Nat.mul_le_mul_left _ hy);omega) hbase;exact fin v' w' hr (by simpa[stRow]using h2) h3
 ·obtain⟨v',w',hr,h2,h3,_,h5⟩:=run_append_own_at (P:=P) w base t o.type e i z 5 bytes hT.under hi hz hz1 hz2 hT.cells hT.pos _ n xs hown ⟨b,o',none⟩ m d (stRow q) (by rw[stRow_length,hq]) (fun j y hj=>by rw[Addr.add_lit];exact hcell j y hj) h1 (by simp only[maxLen];omega) (by
    have:(n+m)*bytes<=(n+m)*1000:=Nat.mul_le_mul_left _ hy
    omega) hbase
  exact fin v' w' hr h2 h3
theorem own_le {w:World} {a b:Nat} {e:TypeId} {k n:Nat} {v:Value} {xs:List Value} (h:w.ownsRow b e k v n xs) (hb:a<=b):w.ownsRow a e k v n xs:=
 ⟨h.1,h.2.imp id fun⟨g,cap,cur,q1,q2,q3⟩=>⟨g,cap,cur,q1,Nat.le_trans hb q2,q3⟩⟩
def pick3 {α:Type} (a b c:α):Nat->α|0=>a|1=>b| _=>c
theorem concat_any (P:Nat->Prop) (w:World) (g:Nat) (A B:Option Addr) (n m c d:Nat) (l1 l2:List St) (hB:Blk w g 71 #[.slice A n c, .slice B m d]) (h1:RdS w P (.slice A n c) l1) (h2:RdS w P (.slice B m d) l2) (hb:n+m<=1073741824):
  Calls prog 79 #[.slice (some ⟨g,0,none⟩) 2 2] w fun e w'=>(∃C k,e= .returned (.slice C (n+m) k)/\RdS w' (fun b=>P b\/w.heap.size<=b) (.slice C (n+m) k) (l1++l2))/\Ext w w':=by
 obtain⟨q1,rfl,hq1,ho1,hm1,hc1⟩:=h1.svs;obtain⟨q2,rfl,hq2,ho2,hm2,hc2⟩:=h2.svs;have HB:=hide hB;have HO1:=hide ho1;have HO2:=hide ho2;have HC1:=hide hc1;have HC2:=hide hc2;have hbc:=hB.cell;have HE0:=hide (Ext.refl w);have hn0: ¬((n:Int)<0):=by omega
 have hnm0: ¬((n:Int)+m<0):=by omega
 have hw1:wrap64 ((n:Int))=n:=by simp only[wrap64];omega
 have hw2:wrap64 ((n:Int)+m)=(n+m:Nat):=by simp only[wrap64];omega
 have hw3:IntKind.i64.wrap (n:Int)=n:=by simp[IntKind.wrap,IntKind.signed,IntKind.bits];omega
 have hw4:IntKind.i64.wrap ((n:Int)+m)=(n+m:Nat):=by simp[IntKind.wrap,IntKind.signed,IntKind.bits];omega
 have hnm1: ¬(((n+m:Nat):Int)<0):=by omega
 clear h1 h2 ho1 ho2 hc1 hc2 hB;go_enter func79,ntmps79;go_wp2_with fail
 go_loopw [3,11] (fun vs vi wr=> ∃(j:Nat),vi= .int .i64 (j:Int)/\j<=2/\vs= .int .i64 ((pick3 0 n (n+m) j:Nat):Int)/\Hid (Ext w wr)) (fun _ vi _=>2-(intOf vi).toNat)
 case atStart=>exact⟨0,rfl,by omega,rfl,HE0⟩
 case round=>
  obtain⟨j,rfl,hj,rfl,HX⟩:=hrel;have hbx:=(HB.out.ext HX.out).cell;clear hbc;obtain rfl|rfl|rfl:j=0\/j=1\/j=2:=by omega
  ·simp only[pick3];go_wp2_with fail;go_roundw
   case rel=>exact⟨1,rfl,by omega,by simp,HX⟩
   case measure=>simp[intOf]
  ·simp only[pick3];go_wp2_with fail;go_roundw
   case rel=>exact⟨2,rfl,by omega,by simp,HX⟩
   case measure=>simp[intOf]
  ·simp only[pick3];go_wp2_with (go_at_call 120;refine(grow_any (n+m) hb _).mono ?_;rintro e w1 ⟨⟨A1,c1,rfl,hO⟩,hE⟩;have HE1:=hide (HX.out.trans hE);have HOw:=hide (own_le hO (Ext.size HX.out));have hbc1:=(HB.out.ext HE1.out).cell;clear hbx;clear hO hE)
   go_loopw [6,27] (fun vs vi wr=> ∃(j:Nat) (C:Option Addr) (k cap:Nat),vi= .int .i64 (j:Int)/\j<=2/\vs= .slice C k cap/\k=pick3 0 n (n+m) j/\Hid (wr.ownsRow w.heap.size 76 5 (.slice C k cap) k (pick3 [] (stRow q1) (stRow q1++stRow q2) j))/\Hid (Ext w wr)) (fun _ vi _=>2-(intOf vi).toNat)
   case atStart=>exact⟨0,_,_,_,rfl,by omega,rfl,rfl,HOw,HE1⟩
   case round=>
    obtain⟨j,C,k,cap,rfl,hj,rfl,hk,HOr,HEr⟩:=hrel;have hbc2:=(HB.out.ext HEr.out).cell;clear hbc1 HOw HE1;have hkc:k<=cap:=by
     rcases HOr.out.2 with⟨hv,h0⟩|⟨g',c',cur,hv,_,_,hle,_⟩
     ·injection hv with a1 a2 a3;omega
     ·injection hv with a1 a2 a3;omega
    obtain rfl|rfl|rfl:j=0\/j=1\/j=2:=by omega
    ·simp only[pick3]at hk HOr;obtain rfl:k=0:=hk;go_wp2_with (at_builtin;refine wpList_appS sts_t rfl _ _ rfl w.heap.size C 0 cap [] rfl HOr.out A n c q1 P rfl hq1 (fun p hp=>(HO1.out p hp).keep (.of_ext HEr.out) (fun _ hb _=>hb)) (HC1.out.imp id fun⟨a1,b,o,a2,a3,a4⟩=>⟨a1,b,o,a2,Nat.lt_of_lt_of_le a3 HEr.out.size,fun j y hj=>(HEr.out.cell b _ a3).trans (a4 j y hj)⟩) (by omega) (by decide) HEr.out.size hkc ?_;intro C2 k2 w2 hO2 hE2;have HO2w:=hide hO2;have HE2:=hide (hE2 w (Nat.le_refl _) HEr.out);clear hO2 hE2);go_roundw
     case rel=>exact⟨1,C2,0+n,k2,rfl,by omega,by simp,by simp[pick3],by simpa[pick3]using HO2w,HE2⟩
     case measure=>simp[intOf]
    ·simp only[pick3]at hk HOr;obtain rfl:k=n:=hk;go_wp2_with (at_builtin;refine wpList_appS sts_t rfl _ _ rfl w.heap.size C k cap (stRow q1) rfl HOr.out B m d q2 P rfl hq2 (fun p hp=>(HO2.out p hp).keep (.of_ext HEr.out) (fun _ hb _=>hb)) (HC2.out.imp id fun⟨a1,b,o,a2,a3,a4⟩=>⟨a1,b,o,a2,Nat.lt_of_lt_of_le a3 HEr.out.size,fun j y hj=>(HEr.out.cell b _ a3).trans (a4 j y hj)⟩) (by omega) (by decide) HEr.out.size hkc ?_;intro C2 k2 w2 hO2 hE2;have HO2w:=hide hO2;have HE2:=hide (hE2 w (Nat.le_refl _) HEr.out);clear hO2 hE2);go_roundw
     case rel=>exact⟨2,C2,k+m,k2,rfl,by omega,rfl,by simp[pick3],by simpa[pick3]using HO2w,HE2⟩
     case measure=>simp[intOf]
    ·simp only[pick3]at hk HOr;subst hk;go_wp2_with fail;go_ret;refine⟨⟨C,cap,rfl,?_⟩,HEr.out⟩
     have:=RdS.of_row (q:=q1++q2) (Q:=fun b=>P b\/w.heap.size<=b) (by rw[stRow_app];exact HOr.out) (by simp[hq1,hq2]) (fun b hb=> .inr hb) (fun p hp=>by
      rcases List.mem_append.1 hp with hp|hp
      ·exact(HO1.out p hp).keep (.of_ext HEr.out) (fun _ hb _=> .inl hb)
      ·exact(HO2.out p hp).keep (.of_ext HEr.out) (fun _ hb _=> .inl hb))
     simpa using this
end Go.Proofs.YtelplgkppalmfaaGreatDoor
namespace Go.Proofs.YtelplgkppalmfaaGreatDoor
open Go.Proofs.Tryz
open Go.RowKit
theorem depS_succ {l:List St} {j:Nat} (h:j<l.length):depS (l.take (j+1))=max (depS (l.take j)) l[j].dep:=by
 rw[List.take_succ_eq_append_getElem h,depS_app];simp[depS]
theorem depL_take (l:List Ex) (j:Nat):depL (l.take j)<=depL l:=by
 have:=depL_app (l.take j) (l.drop j);rw[List.take_append_drop]at this;omega
theorem depS_take (l:List St) (j:Nat):depS (l.take j)<=depS l:=by
 have:=depS_app (l.take j) (l.drop j);rw[List.take_append_drop]at this;omega
theorem sdep_any: ∀(m:Nat) (x:St),x.wt<=m->x.wt<=1073741824-> ∀(P:Nat->Prop) (w:World) (A B C:Option Addr) (n c nb cb nl cl:Nat),RdE w P (.slice A n c) x.ex->RdS w P (.slice B nb cb) x.body->RdS w P (.slice C nl cl) x.els->
  Calls prog 40 #[.agg #[.int .i64 x.k, .string (str x.nm), .slice A n c, .slice B nb cb, .slice C nl cl]] w fun e w'=>e= .returned (.int .i64 (x.dep:Int))/\Ext w w'
 |0,x,hm,_,_,_,_,_,_,_,_,_,_,_,_,_,_,_=>absurd hm (by have:=x.wt_eq;omega)
 |m+1,x,hm,hx,P,w,A,B,C,n,c,nb,cb,nl,cl,hR,hRb,hRl=>by
  have HD:=hide (x.dep_eq);have hw:=x.wt_eq;have hlE:=hR.len;have hlB:=hRb.len;have hlL:=hRl.len;have hnE:=wtL_length x.ex;have hnB:=wtS_length x.body;have hnL:=wtS_length x.els;have hdE:=depL_le x.ex;have hdB:=depS_le x.body;have hdL:=depS_le x.els;have hmem: ∀y,y∈x.body++x.els->y.wt<=m/\y.wt<=1073741824:=fun y hy=>by
   rcases List.mem_append.1 hy with h|h
   ·have:=wtS_mem h;omega
   ·have:=wtS_mem h;omega
  have HIH:=hide (sdep_any m);obtain⟨k,nm,xs,bd,el⟩:=x;simp only[St.k,St.nm,St.ex,St.body,St.els]at*;have HR:=hide hR;have HRb:=hide hRb;have HRl:=hide hRl;have HE0:=hide (Ext.alloc w (.cells #[.int .i64 k, .string (str nm), .slice A n c, .slice B nb cb, .slice C nl cl] 76));have HB0:=hide (Blk.new w 76 #[.int .i64 k, .string (str nm), .slice A n c, .slice B nb cb, .slice C nl cl]);have HLE:=hide hlE;have HLB:=hide hlB;have HLL:=hide hlL;have hnE':n<=wtL xs:=by omega
  have hnB':nb<=wtS bd:=by omega
  have hnL':nl<=wtS el:=by omega
  clear hR hRb hRl hlE hlB hlL;go_enter func40,ntmps40;go_wp2_with fail
  go_loopw [3,11] (fun vd vi wr=> ∃(j:Nat),vi= .int .i64 (j:Int)/\j<=n/\vd= .int .i64 (depL (xs.take j):Int)/\Hid (Ext w wr)/\Hid (Blk wr w.heap.size 76 #[.int .i64 k, .string (str nm), .slice A n c, .slice B nb cb, .slice C nl cl])) (fun _ vi _=>n-(intOf vi).toNat)
  case atStart=>exact⟨0,rfl,Nat.zero_le _,by simp[depL],HE0,HB0⟩
  case round=>
   obtain⟨j,rfl,hj,rfl,HX,HB⟩:=hrel;have hdj:=depL_take xs j;by_cases hlt:j<n
   ·have hlt':(j:Int)<n:=by omega
    have hjl:j<xs.length:=by have:=HLE.out;omega
    obtain⟨b,o,a,rfl,hb,hP,h0,h1,h2,h3,h4,h5,hRa⟩:=HR.out.at_ j hjl;have HS:=hide (depL_succ hjl);have hyw:=wtL_mem (List.getElem_mem hjl);generalize xs[j]=y at*;have e0:=(HX.out.cell b _ hb).trans h0;have e1:=(HX.out.cell b _ hb).trans h1;have e2:=(HX.out.cell b _ hb).trans h2;have e3:=(HX.out.cell b _ hb).trans h3;have e4:=(HX.out.cell b _ hb).trans h4;have e5:=(HX.out.cell b _ hb).trans h5;obtain⟨D,d,rfl,_⟩:=hRa.form;have HRa:=hide (hRa.keep (.of_ext HX.out) (Q:=P) (fun b hb _=>hb));have hdy:=y.dep_le;clear h0 h1 h2 h3 h4 h5 hRa;go_wp2_with (go_at_call 78;refine(dep_any _ y (Nat.le_refl _) (by omega) P _ D _ d (HRa.out.keep (.of_ext (Ext.alloc _ _)) (fun b hb _=>hb))).mono ?_;rintro e w3 ⟨rfl,hE⟩;have HY:=hide ((HX.out.alloc' _).trans hE);have HBy:=hide ((HB.out.ext (Ext.alloc _ _)).ext hE);clear hE);go_roundw
    case rel=>exact⟨j+1,by go_num,by omega,by rw[HS.out];congr 1;omega,HY,HBy⟩
    case measure=>simp[intOf];omega
   ·have hlt': ¬(j:Int)<n:=by omega
    have hjN:j=n:=by omega
    subst hjN;have HQ:=hide (show depL (xs.take j)=depL xs by rw[HLE.out,List.take_length]);rw[HQ.out]at hdj⊢;have hbc:=HB.out.cell;have HE1:=hide (HX.out.alloc' (.cells #[.slice B nb cb, .slice C nl cl] 71));have HA1:=hide (Blk.new wr 71 #[.slice B nb cb, .slice C nl cl]);go_wp2_with (go_at_call 79;refine(concat_any P _ _ B C nb nl cb cl bd el HA1.out (HRb.out.keep (.of_ext HE1.out) (fun _ hb _=>hb)) (HRl.out.keep (.of_ext HE1.out) (fun _ hb _=>hb)) (by omega)).mono ?_;rintro e w2 ⟨⟨D,k2,rfl,hRc⟩,hE2⟩;have HE2:=hide (HE1.out.trans hE2);have HRc:=hide hRc;clear hE2 hRc);generalize hQd:(fun b=>P b\/(wr.alloc (.cells #[.slice B nb cb, .slice C nl cl] 71)).heap.size<=b)=Q at*;have hN:(bd++el).length=nb+nl:=by have:=HLB.out;have:=HLL.out;simp;omega
    obtain⟨N,hNN⟩: ∃N,nb+nl=N:=⟨_,rfl⟩
    rw[hNN]at HRc hN⊢;have hdN:=depS_app bd el;clear hbc
    go_loopw [3,27] (fun vd vi wr'=> ∃(i:Nat),vi= .int .i64 (i:Int)/\i<=N/\vd= .int .i64 ((max (depL xs) (depS ((bd++el).take i)):Nat):Int)/\Hid (Ext w wr')/\Hid (Ext w2 wr')) (fun _ vi _=>N-(intOf vi).toNat)
    case atStart=>exact⟨0,rfl,Nat.zero_le _,by simp[depS],HE2,hide (Ext.refl _)⟩
    case round=>
     obtain⟨i,rfl,hi,rfl,HX2,HZ2⟩:=hrel;have hdi:=depS_take (bd++el) i;by_cases hlt2:i<N
     ·have hlt3:(i:Int)<N:=by omega
      have hil:i<(bd++el).length:=by omega
      obtain⟨b,o,u,v,z,rfl,hb,hP,h0,h1,h2,h3,h4,hRe,hRs,hRt⟩:=HRc.out.at_ i hil;have HS:=hide (depS_succ hil);have hym:=hmem _ (List.getElem_mem hil);generalize (bd++el)[i]=y at*;have e0:=(HZ2.out.cell b _ hb).trans h0;have e1:=(HZ2.out.cell b _ hb).trans h1;have e2:=(HZ2.out.cell b _ hb).trans h2;have e3:=(HZ2.out.cell b _ hb).trans h3;have e4:=(HZ2.out.cell b _ hb).trans h4;obtain⟨D1,d1,rfl,_⟩:=hRe.form;obtain⟨D2,d2,rfl,_⟩:=hRs.form;obtain⟨D3,d3,rfl,_⟩:=hRt.form;have HRe:=hide (hRe.keep (.of_ext HZ2.out) (Q:=Q) (fun b hb _=>hb));have HRs:=hide (hRs.keep (.of_ext HZ2.out) (Q:=Q) (fun b hb _=>hb));have HRt:=hide (hRt.keep (.of_ext HZ2.out) (Q:=Q) (fun b hb _=>hb));have hdy:=y.dep_le;have hdy2:=hym.2;clear h0 h1 h2 h3 h4 hRe hRs hRt;go_wp2_with (go_at_call 40;refine(HIH.out y hym.1 hym.2 Q _ D1 D2 D3 _ d1 _ d2 _ d3 (HRe.out.keep (.of_ext (Ext.alloc _ _)) (fun b hb _=>hb)) (HRs.out.keep (.of_ext (Ext.alloc _ _)) (fun b hb _=>hb)) (HRt.out.keep (.of_ext (Ext.alloc _ _)) (fun b hb _=>hb))).mono ?_;rintro e w3 ⟨rfl,hE⟩;have HY:=hide ((HX2.out.alloc' _).trans hE);have HZ:=hide ((HZ2.out.alloc' _).trans hE);clear hE);go_roundw
      case rel=>exact⟨i+1,by go_num,by omega,by rw[HS.out];congr 1;omega,HY,HZ⟩
      case measure=>simp[intOf];omega
     ·have hlt3: ¬(i:Int)<N:=by omega
      have hiN:i=N:=by omega
      subst hiN;have HQ2:=hide (show depS ((bd++el).take i)=max (depS bd) (depS el) by rw[<-hN,List.take_length,depS_app]);rw[HQ2.out]at hdi⊢;obtain⟨dd,hdd⟩: ∃dd,max (depL xs) (max (depS bd) (depS el))=dd:=⟨_,rfl⟩
      rw[hdd]at HD⊢;have hwr:IntKind.i64.wrap ((dd:Int)+1)=dd+1:=by simp[IntKind.wrap,IntKind.signed,IntKind.bits];omega
      clear hN;go_wp2_with fail;go_ret;exact⟨by rw[HD.out];rfl,HX2.out⟩
end Go.Proofs.YtelplgkppalmfaaGreatDoor
