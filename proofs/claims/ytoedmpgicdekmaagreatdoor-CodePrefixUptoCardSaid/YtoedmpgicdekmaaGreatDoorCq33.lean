/-
  Parts of the proof: ExC.
-/
import Derived.Test.YtoedmpgicdekmaaGreatDoorCq00
import Derived.Test.YtoedmpgicdekmaaGreatDoorCq29
import Derived.Test.YtoedmpgicdekmaaGreatDoorCq32
set_option maxRecDepth 100000
set_option maxHeartbeats 8000000
set_option linter.unusedVariables false
set_option linter.unusedSimpArgs false
set_option linter.unusedSectionVars false
namespace Go.Proofs.YtoedmpgicdekmaaGreatDoor
open Go.Proofs.Tryz
open Go.RowKit
theorem AH {k u:Nat} (h:128<=u) (hk:0<k):gG k u=UInt8.ofNat (128+u%128)::gG (k-1) (u/128):=by
 obtain⟨e,rfl⟩:=dC (Nat.pos_iff_ne_zero.1 hk);rw[gG,if_pos h];rfl
theorem AG {k u:Nat} (h:u<128):gG k u=[UInt8.ofNat u]:=by
 cases k with
 |zero=>rfl
 |succ k=>rw[gG,if_neg (by omega)]
theorem Below.of_grown {w w':World} {base:Nat} {row:Option Nat} (hg:w.grownBy w' row) (hB:base<=w.heap.size) (hr: ∀k,row=some k->base<=k):Below base w w':=(RowKit.Below.refl _ _).grown hg hB hr
def rq (w:World) (base:Nat) (e:TypeId) (v:Value) (l:List UInt8):Prop:=fZ w base e v l\/ ∃g,v= .slice (some ⟨g,0,none⟩) l.length l.length/\Sl w (some ⟨g,0,none⟩) l.length l
theorem rq.form {w:World} {base:Nat} {e:TypeId} {v:Value} {l:List UInt8} (h:rq w base e v l): ∃A cap,v= .slice A l.length cap:=by
 rcases h with h|⟨g,rfl,_⟩
 ·exact h.form
 ·exact⟨_,_,rfl⟩
theorem rq.ext {w w':World} {base:Nat} {e:TypeId} {v:Value} {l:List UInt8} (h:rq w base e v l) (hE:au w w'):rq w' base e v l:=by
 rcases h with h|⟨g,hv,hs⟩
 ·exact .inl (h.ext hE)
 ·exact .inr ⟨g,hv,hs.ext hE⟩
theorem rW {P:Program} {w:World} {t e:TypeId} (hT:ks P t e) (ty:TypeId) (base:Nat) (g:Nat) (l:List UInt8) (hl:Sl w (some ⟨g,0,none⟩) l.length l) (A:Option Addr) (cap:Nat) (m:List UInt8) (hs:Sl w A cap m) (hne:m≠ [])
  (hb:l.length+m.length<=70368744177664) (hbase:base<=w.heap.size):
  ∃A' cap' w',(Builtin.append_ #[t,t] ty #[.slice (some ⟨g,0,none⟩) l.length l.length, .slice A m.length cap]).run P w= .ok (.slice A' (l.length+m.length) cap') w'/\fZ w' base e (.slice A' (l.length+m.length) cap') (l++m)/\w.grownBy w' none:=by
 obtain⟨i,hi,hz,hz1,hz2⟩:=info_parts hT.info;rcases hs.rd with h0|⟨b,off,rfl,_,hc⟩
 ·exact absurd h0 hne
 have hm0:0<m.length:=List.length_pos_iff.2 hne;have hcl: ∀j u,(gn l)[j]? =some u->w.cell? ((⟨g,0,none⟩:Addr).add j)=some u:=fun j u hu=>by
  have hj:j<l.length:=by have:=(List.getElem?_eq_some_iff.1 hu).1;simpa[gn]using this
  rcases hl.rd with h0|⟨b',o',he,_,hc'⟩
  ·rw[h0]at hj;simp at hj
  ·injection he with he;injection he with e1 e2;subst e1 e2;rw[Addr.add_lit,hc' j hj,<-hu];simp[gn,oY,hj]
 have hcm: ∀j u,(gn m)[j]? =some u->w.cell? ((⟨b,off,none⟩:Addr).add j)=some u:=fun j u hu=>by
  have hj:j<m.length:=by have:=(List.getElem?_eq_some_iff.1 hu).1;simpa[gn]using this
  rw[Addr.add_lit,hc j hj,<-hu];simp[gn,oY,hj]
 have hr:=run_append_grow (P:=P) w t ty e i (.int .u8 0) hT.under hi hz ⟨g,0,none⟩ l.length l.length (gn l) (by rw[hz1];simp[gn]) hcl ⟨b,off,none⟩ m.length cap (gn m) (by rw[hz1];simp[gn]) hcm (by omega) (by omega) (growslice_fits (by omega) (by rw[hz2];omega));have hge:=grownCap_ge w (l.length+m.length) l.length e;have hcx:grownCap w (l.length+m.length) l.length e<=maxLen:=grownCap_le_maxLen w (l.length+m.length) l.length e (by simp only[maxLen];omega);refine⟨_,_,_,hr,?_,⟨rfl,rfl,rfl,by simp,fun k hk _=>RowKit.Below.heap_alloc w.drew _ k hk⟩⟩;have hlen:(gn (l++m)).length=(l.length+m.length)*1:=by simp[gn]
 unfold fZ;rw[ab];refine⟨hlen, .inr ⟨w.heap.size,_,_,rfl,hbase,heap_alloc_new w.drew _,hge,hcx,?_,?_⟩⟩
 ·simp only[Array.size_append,eW,size_zeroCells,gn,ee];have h1:(Value.int IntKind.u8 0).cells.size=1:=rfl;rw[h1];simp;omega
 ·simp only[Array.toList_append,aJ];rw[<-aJ,<-hlen];simp only[gn,fM];exact List.take_left
theorem j5 {P:Program} {w:World} {ops:Array Oper} {rest:List Oper} {o:Oper} {a:Act} {Q:Exit->Act->World->Prop} {t e:TypeId} (hT:ks P t e) (hgd:o.guard=none) (s x:Operand)
  (ho:o.op= .call {callee:= .builtin .append,args:= #[s,x],argTypes:= #[t,t]}) (base:Nat) (v:Value) (l:List UInt8) (hv:a.eval s=v) (hown:rq w base e v l)
  (A:Option Addr) (cap:Nat) (m:List UInt8) (hx:a.eval x= .slice A m.length cap) (hs:Sl w A cap m) (hne:m≠ []) (hb:l.length+m.length<=70368744177664) (hbase:base<=w.heap.size)
  (h: ∀A' cap' w',fZ w' base e (.slice A' (l.length+m.length) cap') (l++m)->Below base w w'->wpList P ops Q rest (a.put o.dst (.slice A' (l.length+m.length) cap')) w'):
  wpList P ops Q (o::rest) a w:=by
 rcases hown with hown|⟨g,rfl,hsl⟩
 ·exact dZ hT hgd s x ho base v l hv hown A cap m hx hs hb hbase fun A' c' w' h1 h2 _=>h A' c' w' h1 (Below.of_grown h2 hbase (fun k hk=>ji hown k hk))
 ·obtain⟨A',cap',w',hr,h1,h2⟩:=rW (P:=P) (w:=w) hT o.type base g l hsl A cap m hs hne hb hbase;refine wpList_plain hgd fun K hK=> ?_;unfold Oper.wp execOp;simp only[ho,resolve,invoke,builtin,Sem.run_bind,Sem.run_pure,Result.andThen_ok,cU,bS,db,hv,hx,hr];exact hK _ _ (h A' cap' w' h1 (Below.of_grown h2 hbase (fun k hk=>by cases hk)))
theorem nJ (base:Nat) (A:Option Addr) (N cap:Nat) (l:List UInt8) (n:Nat) (w:World) (hown:rq w base 5 (.slice A N cap) l) (hb:base<=w.heap.size) (hl:l.length<=1000000000) (hn:n<=1000000000000):
  Calls prog 49 #[.slice A N cap, .int .i64 (n:Int)] w fun e w'=> ∃A2 c2,e= .returned (.slice A2 (l++eV n).length c2)/\fZ w' base 5 (.slice A2 (l++eV n).length c2) (l++eV n)/\Below base w w':=by
 have HNl:=G (show N=l.length by obtain⟨A',c',e⟩:=hown.form;injection e);have HO:=G hown
 have HE:=G (show eV (n:Int)=gG 10 (2*n) by
  unfold eV C4;rw[if_neg (by omega)]
  congr 1)
 generalize eV (n:Int)=EN at*;have hw1:IntKind.u64.wrap (n:Int)=(n:Int):=by rw[IntKind.wrap_u64];omega
 have hw2:IntKind.u64.wrap ((n:Int)*2)=2*(n:Int):=by rw[IntKind.wrap_u64];omega
 have hn0: ¬(n:Int)<0:=by omega
 clear hown;go_enter func49,ntmps49
 go_upto_region 4 with fail
 have HL0:=G (show l++gG 10 (2*n)=l++EN by rw[HE.out]);have HU0:=G (show 2*n<128^(10+1)from Nat.lt_of_le_of_lt (show 2*n<=2000000000000 by omega) (by decide));rw[HNl.out]at HO;have e0:((2*n:Nat):Int)=2*(n:Int):=by omega
 clear hw1 hw2
 go_loopw [0,5] (fun v0 v5 wr=> ∃(k u:Nat) (A1:Option Addr) (c1:Nat) (l1:List UInt8),v5= .int .u64 (u:Int)/\v0= .slice A1 l1.length c1/\Hid (Below base w wr)/\Hid (l1++gG k u=l++EN)/\Hid (u<128^(k+1)/\k<=10/\u<=2000000000000/\l1.length+k<=l.length+10)/\Hid (rq wr base 5 (.slice A1 l1.length c1) l1)) (fun _ v5 _=>(intOf v5).toNat)
 case atStart=>exact⟨10,2*n,A,cap,l,by rw[e0],by rw[HNl.out],G (Below.refl _ _),HL0,G ⟨HU0.out,ah _,by omega,ah _⟩,HO⟩
 case round=>
  obtain⟨k,u,A1,c1,l1,rfl,rfl,HB,HL1,HU1,HO1⟩:=hrel;clear HL0 HU0 HO HE e0;obtain⟨hu1,hk1,hu2,hl1⟩:=HU1.out;have hbs:=HB.out.size;by_cases hge:128<=u
  ·have hge':(128:Int)<=(u:Int):=by omega
   have hk0:0<k:=by
    rcases Nat.eq_zero_or_pos k with h|h
    ·subst h;simp at hu1;omega
    ·exact h
   have HL2:=G (show(l1++[UInt8.ofNat (128+u%128)])++gG (k-1) (u/128)=l++EN by rw[<-HL1.out,AH hge hk0];simp)
   have HU2:=G (show u/128<128^(k-1+1)/\k-1<=10/\u/128<=2000000000000/\(l1++[UInt8.ofNat (128+u%128)]).length+(k-1)<=l.length+10 by
    refine⟨?_,by omega,by omega,by simp;omega⟩;rw[show k-1+1=k by omega];rw[Nat.pow_succ]at hu1
    exact Nat.div_lt_of_lt_mul (by rw[Nat.mul_comm];exact hu1))
   have hb1:IntKind.u8.wrap (128+(u:Int)%128)=((UInt8.ofNat (128+u%128)).toNat:Int):=by
    rw[dq];simp[IntKind.wrap,IntKind.signed,IntKind.bits]<;>omega
   have hw3:IntKind.u64.wrap (128+(u:Int)%128)=128+(u:Int)%128:=by rw[IntKind.wrap_u64];omega
   have hq:((u/128:Nat):Int)=(u:Int)/128:=by omega
   generalize UInt8.ofNat (128+u%128)=bb at*;generalize wr=wz at*;clear HU1 hu1;go_wp2_with (at_builtin;refine j5 bt rfl _ _ rfl base _ l1 rfl (HO1.out.ext (aa wz _)) _ _ [bb] rfl (nV wz 5 bb) (by simp) (by simp;omega) (by rw[World.size_alloc];omega) ?_;intro A2 c2 w2 q1 q2;have HO2:=G q1;have HB2:=G ((HB.out.alloc (ax hb hbs) _).trans q2);clear q1 q2 HB);go_roundw
   case rel=>exact⟨k-1,u/128,A2,c2,l1++[bb],by rw[hq],by simp,HB2,HL2,HU2,G (.inl (by have:=HO2.out;simpa using this))⟩
   case measure=>simp[intOf];omega
  ·have hge': ¬(128:Int)<=(u:Int):=by omega
   have HL2:=G (show l1++[UInt8.ofNat u]=l++EN by rw[<-HL1.out,AG (by omega)]);have hb1:IntKind.u8.wrap (u:Int)=((UInt8.ofNat u).toNat:Int):=by
    rw[dq];simp[IntKind.wrap,IntKind.signed,IntKind.bits]<;>omega
   generalize UInt8.ofNat u=bb at*;generalize wr=wz at*;clear HU1 hu1;go_wp2_with (at_builtin;refine j5 bt rfl _ _ rfl base _ l1 rfl (HO1.out.ext (aa wz _)) _ _ [bb] rfl (nV wz 5 bb) (by simp) (by simp;omega) (by rw[World.size_alloc];omega) ?_;intro A2 c2 w2 q1 q2;have HO2:=G q1;have HB2:=G ((HB.out.alloc (ax hb hbs) _).trans q2);clear q1 q2 HB);go_ret;have hlen:l1.length+1=l.length+EN.length:=by have:=congrArg List.length HL2.out;simpa using this
   refine⟨A2,c2,by simp[hlen],?_,HB2.out⟩;have h:=HO2.out;rw[HL2.out]at h;simpa[hlen]using h
theorem Sl.bel {w w':World} {base:Nat} {A:Option Addr} {c:Nat} {l:List UInt8} (h:Sl w A c l) (hB:Below base w w') (hb: ∀b o,A=some ⟨b,o,none⟩->l≠ []->b<base):Sl w' A c l:=by
 refine⟨h.le,h.max,h.nil,?_⟩;rcases h.rd with h0|⟨b,o,ha,hbw,hc⟩
 ·exact .inl h0
 ·by_cases hl:l=[]
  ·exact .inl hl
  have:=hb b o ha hl;exact .inr ⟨b,o,ha,aA hbw hB.size,fun i hi=>(World.cell?_of_block (w:=w) (a:=⟨b,o+i,none⟩) (hB.block b this)).trans (hc i hi)⟩
theorem vK (k u:Nat):(gG k u).length<=k+1:=by
 induction k generalizing u with
 |zero=>simp[gG]
 |succ k ih=>simp only[gG];split<;>simp[ih]
theorem kk (n:Int):(eV n).length<=11:=vK 10 _
theorem nK (base:Nat) (A B:Option Addr) (N cap M d:Nat) (l x:List UInt8) (w:World) (hown:fZ w base 5 (.slice A N cap) l) (hb:base<=w.heap.size) (hl:l.length<=900000000) (hS:Sl w B d x) (hM:x.length=M) (hx:x.length<=900000000) (hB: ∀b o,B=some ⟨b,o,none⟩->x≠ []->b<base):
  Calls prog 51 #[.slice A N cap, .slice B M d] w fun e w'=> ∃A2 c2,e= .returned (.slice A2 (l++eV M++x).length c2)/\fZ w' base 5 (.slice A2 (l++eV M++x).length c2) (l++eV M++x)/\Below base w w':=by
 have HI:=G (nJ base A N cap l M w (.inl hown) hb (by omega) (by omega));have HS:=G hS;have HB:=G hB;have HM:=G hM;obtain⟨L1,hL1⟩: ∃L1,l++eV (M:Int)=L1:=⟨_,rfl⟩
 have hL1n:L1.length<=900000020:=by
  rw[<-hL1,ab];have: ∀k u,(gG k u).length<=k+1:=fun k=>by
   induction k with
   |zero=>intro u;simp[gG]
   |succ k ih=>intro u;rw[gG];split;simp[ih];simp
  have:=this 10 (C4 M);unfold eV;omega
 rw[hL1]at HI;rw[hL1];have HLL:=G (show(L1++x).length=L1.length+M by rw[ab,hM]);have hMn:M<=900000000:=by omega
 clear hown hS hB hM hL1 hx;go_enter func51,ntmps51
 go_wp2_with (first
  |(go_at_call 49;refine HI.out.mono ?_;rintro e w1 ⟨A1,c1,rfl,hO,hBl⟩;have HO1:=G hO;have HB1:=G hBl;clear HI hO hBl)
  |(at_builtin;refine dZ bt rfl _ _ rfl base _ L1 rfl HO1.out B d x (by rw[HM.out];rfl) (HS.out.bel HB1.out HB.out) (by have:=HM.out;omega) (by have:=HB1.out.size;omega) ?_;intro A2 c2 w2 q1 q2 _;have HO2:=G q1;have HB2:=G (Below.grown HB1.out q2 (by have:=HB1.out.size;omega) (fun j hj=>ji HO1.out j hj));clear q1 q2))
 go_ret;refine⟨A2,c2,by simp[HM.out],?_,HB2.out⟩;simpa using HO2.out
end Go.Proofs.YtoedmpgicdekmaaGreatDoor
