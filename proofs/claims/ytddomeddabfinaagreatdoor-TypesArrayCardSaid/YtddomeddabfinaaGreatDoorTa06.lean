/-
  Parts of the proof: LexI LexJ LexK LexL LexM LexN LexO.
-/
import Derived.Test.YtddomeddabfinaaGreatDoorTa00
import Derived.Test.YtddomeddabfinaaGreatDoorTa05
set_option maxRecDepth 100000
set_option maxHeartbeats 8000000
set_option linter.unusedVariables false
set_option linter.unusedSimpArgs false
set_option linter.unusedSectionVars false
namespace Go.Proofs.YtddomeddabfinaaGreatDoor
open Go.Proofs.Tryz
section
open Go.RowKit
def fG (t:bK):List Value:=[.int .i64 t.k, .string (ah t.t), .int .i64 t.v, .int .i64 t.f]
def jY (ts:List bK):List Value:=ts.flatMap fG
theorem uh (a b:List bK):jY (a++b)=jY a++jY b:=by simp[jY]
def gx (w:World) (base:Nat) (e:TypeId) (v:Value) (ts:List bK):Prop:=w.ownsRow base e 4 v ts.length (jY ts)
theorem gx.nil_ (w:World) (base:Nat) (e:TypeId):gx w base e (.slice none 0 0) []:=World.ownsRow_nil w base e 4
theorem gx.form {w:World} {base:Nat} {e:TypeId} {v:Value} {ts:List bK} (h:gx w base e v ts): ∃A cap,v= .slice A ts.length cap:=by
 rcases h.2 with⟨rfl,h0⟩|⟨g,cap,cur,rfl,_⟩
 ·exact⟨none,0,by rw[h0]⟩
 ·exact⟨_,_,rfl⟩
theorem gx.grown {w w':World} {base:Nat} {e:TypeId} {v:Value} {ts:List bK} {row:Option Nat} (h:gx w base e v ts) (hg:w.grownBy w' row) (hr:v.ownBlock=none\/v.ownBlock≠row):gx w' base e v ts:=World.ownsRow.kept h hg hr
theorem gx.ext {w w':World} {base:Nat} {e:TypeId} {v:Value} {ts:List bK} (h:gx w base e v ts) (he:au w w'):gx w' base e v ts:=h.grown (he.grownBy none) (by cases v.ownBlock<;>simp)
structure BC (P:Program) (t e:TypeId):Prop where
 under:P.underlying t=some (.slice e)
 info:(P.info? e).map (fun i=>(i.zero,i.size,i.bytes))=some (some (.agg #[.int .i64 0, .string ⟨#[]⟩, .int .i64 0, .int .i64 0]),4,40)
theorem qD {P:Program} {w:World} {t e:TypeId} (hT:BC P t e) (ty:TypeId) (base:Nat) (v:Value) (ts:List bK) (hown:gx w base e v ts) (g:Nat) (x:bK)
  (hg:w.heap[g]? =some (.cells #[.int .i64 x.k, .string (ah x.t), .int .i64 x.v, .int .i64 x.f] e (0,0))) (hb:ts.length<=1073741824) (hbase:base<=w.heap.size):
  ∃A' cap' w',(Builtin.append_ #[t,t] ty #[v, .slice (some ⟨g,0,none⟩) 1 1]).run P w= .ok (.slice A' (ts.length+1) cap') w'/\gx w' base e (.slice A' (ts.length+1) cap') (ts++[x])/\w.grownBy w' v.ownBlock/\
   (Value.ownBlock (.slice A' (ts.length+1) cap')=v.ownBlock\/Value.ownBlock (.slice A' (ts.length+1) cap')=some w.heap.size):=by
 obtain⟨i,hi,hz,hz1,hz2⟩:=info_parts hT.info;obtain⟨v',w',hr,h2,h3,_,h5⟩:=run_append_own_at (P:=P) w base t ty e i (.agg #[.int .i64 0, .string ⟨#[]⟩, .int .i64 0, .int .i64 0]) 4 40 hT.under hi hz hz1 hz2 rfl (by decide) v ts.length (jY ts) hown ⟨g,0,none⟩ 1 1 (fG x) rfl
  (fun j y hj=>by
   rw[Addr.add_lit,aA,cell_of_row w g j _ e (0,0) hg]
   simpa[fG]using hj) (by simp[fG,Value.oneCell']) (by simp only[maxLen];omega) (by omega) hbase
 have hO:gx w' base e v' (ts++[x]):=by
  unfold gx;rw[Z,uh];simpa[jY]using h2
 obtain⟨A',cap',rfl⟩:=hO.form;rw[Z]at hO hr h5;exact⟨A',cap',w',hr,hO,h3,h5⟩
theorem ng {P:Program} {w:World} {ops:Array Oper} {rest:List Oper} {o:Oper} {a:Act} {Q:Exit->Act->World->Prop} {t e:TypeId} (hT:BC P t e) (hgd:o.guard=none) (s x:Operand)
  (ho:o.op= .call {callee:= .builtin .append,args:= #[s,x],argTypes:= #[t,t]}) (base:Nat) (v:Value) (ts:List bK) (hv:a.eval s=v) (hown:gx w base e v ts)
  (g:Nat) (y:bK) (hx:a.eval x= .slice (some ⟨g,0,none⟩) 1 1) (hg:w.heap[g]? =some (.cells #[.int .i64 y.k, .string (ah y.t), .int .i64 y.v, .int .i64 y.f] e (0,0))) (hb:ts.length<=1073741824) (hbase:base<=w.heap.size)
  (h: ∀A' cap' w',gx w' base e (.slice A' (ts.length+1) cap') (ts++[y])->w.grownBy w' v.ownBlock->
   (Value.ownBlock (.slice A' (ts.length+1) cap')=v.ownBlock\/Value.ownBlock (.slice A' (ts.length+1) cap')=some w.heap.size)->wpList P ops Q rest (a.put o.dst (.slice A' (ts.length+1) cap')) w'):
  wpList P ops Q (o::rest) a w:=by
 obtain⟨A',cap',w',hr,h1,h2,h3⟩:=qD (P:=P) (w:=w) hT o.type base v ts hown g y hg hb hbase;refine wpList_plain hgd fun K hK=> ?_;unfold Oper.wp execOp;simp only[ho,resolve,invoke,builtin,Sem.run_bind,Sem.run_pure,Result.andThen_ok,dK,bW,dZ,hv,hx,hr];exact hK _ _ (h A' cap' w' h1 h2 h3)
theorem tt:BC prog 147 206:=⟨underlying147,by kernel_rfl⟩
theorem qQ: ∀(f:Nat) (m:List UInt8) (t:List UInt8) (n:Nat),mS f m=some (t,n)->1<=n/\n<=m.length
 |0,m,t,n,h=>by cases h
 |f+1,[],t,n,h=>by cases h
 |f+1,c::r,t,n,h=>by
  simp only[mS]at h;split at h
  ·cases h;exact⟨ag _,by simp⟩
  ·split at h
   ·cases h
   ·obtain⟨⟨t',n'⟩,h1,h2⟩:=Option.map_eq_some_iff.1 h
    cases h2;have:=qQ f _ t' n' h1;have h3:=kb (c::r);rw[bg]at this;omega
theorem mi {l:List UInt8} {c:UInt8} (h:l.head? =some c):1<=l.length:=by cases l<;>simp at h⊢
theorem nk {c:UInt8} {r:List UInt8} {x:Int×List UInt8×Int} {n:Nat} (h:jX (c::r)= .ok (x,n)):1<=n/\n<=(c::r).length:=by
 have hp:kA c=true->1<=bX eT (c::r):=fun h=>by simp[bX,eT,h]
 have hd:eF c=true->1<=bX eF (c::r):=fun h=>by simp[bX,h]
 have hp2:=gU eT (c::r);have hd2:=gU eF (c::r);simp only[jX]at h;split at h
 ·rename_i hL;unfold jE at h;split at h
  ·cases h;exact⟨hp hL,hp2⟩
  ·split at h
   ·cases h
   ·cases h;exact⟨hp hL,hp2⟩
 ·split at h
  ·rename_i hD;unfold gV at h;split at h
   ·cases h
   ·split at h
    ·cases h
    ·cases h;exact⟨hd hD,hd2⟩
  ·split at h
   ·unfold iz at h;split at h
    ·cases h
    ·rename_i hc
     cases h;have h3:((c::r).drop ((ch ((c::r).drop 1)).2+1)).head? =some 39:=by
      refine Classical.byContradiction fun hne=>hc (.inr (.inr hne))
     have:=mi h3;rw[bg]at this;omega
   ·split at h
    ·unfold iV at h;split at h
     ·cases h
     ·rename_i t n' hl;split at h
      ·cases h
      ·cases h;have:=qQ _ _ _ _ hl;rw[bg]at this;omega
    ·unfold ip at h;split at h
     ·rename_i hc
      cases h;have: ∀t∈two,t.length=2:=by decide
      have h2:((c::r).take 2).length=2:=this _ (List.contains_iff_mem.1 hc);rw[be]at h2;omega
     ·split at h
      ·cases h;exact⟨ag _,by simp⟩
      ·cases h
theorem vX {c:UInt8} {r:List UInt8} {e:Int} (h:jX (c::r)= .error e):e=3\/e=2\/e=6:=by
 simp only[jX]at h;unfold jE gV iz iV ip at h;repeat' split at h
 all_goals cases h
 all_goals first|exact .inl rfl|exact .inr (.inl rfl)|exact .inr (.inr rfl)
def kI (ts:List bK):Except (Nat×Int) (List bK)->Except (Nat×Int) (List bK)
 | .error e=> .error e
 | .ok us=> .ok (ts++us)
theorem rK (l:List UInt8):mR l=kI [] (gq (l.length+1) (l.drop 0) 0):=by
 unfold mR;rw[an]
 cases gq (l.length+1) l 0<;>simp[kI]
theorem vU {l:List UInt8} {f p:Nat} {ts:List bK} (h:mR l=kI ts (gq (f+1) (l.drop p) p)) (he:l.length<=p+cD false (l.drop p)):mR l= .ok ts:=by
 rw[h];have:(l.drop p).drop (cD false (l.drop p))=[]:=by
  rw[dO];exact aD he
 simp only[gq,this,kI,dW]
theorem vT {l:List UInt8} {f p q:Nat} {ts:List bK} {c:UInt8} {r:List UInt8} {e:Int} (h:mR l=kI ts (gq (f+1) (l.drop p) p)) (hq:q=p+cD false (l.drop p)) (hd:l.drop q=c::r) (ht:jX (c::r)= .error e):mR l= .error (q,e):=by
 rw[h];have:(l.drop p).drop (cD false (l.drop p))=c::r:=by
  rw[dO,<-hq,hd]
 simp only[gq,this,ht,kI,hq]
theorem uc {l:List UInt8} {f p q:Nat} {ts:List bK} {c:UInt8} {r:List UInt8} {k:Int} {t:List UInt8} {v:Int} {n:Nat} (h:mR l=kI ts (gq (f+1) (l.drop p) p)) (hq:q=p+cD false (l.drop p)) (hd:l.drop q=c::r)
  (ht:jX (c::r)= .ok ((k,t,v),n)):mR l=kI (ts++[⟨k,t,v,(q:Nat)⟩]) (gq f (l.drop (q+n)) (q+n)):=by
 rw[h];have h1:(l.drop p).drop (cD false (l.drop p))=c::r:=by
  rw[dO,<-hq,hd]
 have h2:l.drop (q+n)=(c::r).drop n:=by rw[<-hd,dO]
 rw[h2];simp only[gq,h1,ht,<-hq]
 cases gq f ((c::r).drop n) (q+n)<;>simp[kI]
end
section
open Go.RowKit
def tS (ty:TypeId) (base:Nat) (r:List bK×Int×Int) (e:Ending) (w':World):Prop:=
 ∃A cap,e= .returned (.tuple #[.slice A r.1.length cap, .int .i64 r.2.1, .int .i64 r.2.2])/\gx w' base ty (.slice A r.1.length cap) r.1
theorem oC (l:List UInt8) (h:4000<l.length):gc l=([],4000,6):=by unfold gc;rw[if_pos h]
theorem vV (l:List UInt8) (ts:List bK) (h: ¬4000<l.length) (ht:mR l= .ok ts):gc l=(ts,0,0):=by unfold gc;rw[if_neg h,ht]
theorem ud (l:List UInt8) (p:Nat) (e:Int) (h: ¬4000<l.length) (ht:mR l= .error (p,e)):gc l=([],(p:Int),e):=by unfold gc;rw[if_neg h,ht]
theorem yE (w:World) (e:TypeId) (x:bK):((w.alloc (.cells #[.int .i64 x.k, .string (ah x.t), .int .i64 x.v, .int .i64 x.f] e)).alloc (.cells #[.int .i64 x.k, .string (ah x.t), .int .i64 x.v, .int .i64 x.f] e)).heap[w.heap.size+1]? =some (.cells #[.int .i64 x.k, .string (ah x.t), .int .i64 x.v, .int .i64 x.f] e (0,0)):=by
 have:=heap_alloc_new (w.alloc (.cells #[.int .i64 x.k, .string (ah x.t), .int .i64 x.v, .int .i64 x.f] e)) (.cells #[.int .i64 x.k, .string (ah x.t), .int .i64 x.v, .int .i64 x.f] e);rwa [World.size_alloc]at this
theorem rL (l:List UInt8) (hl:l.length<=100000) (w:World) (hz:EZ w):Calls prog 58 #[.string (ah l)] w fun e w'=>tS 206 w.heap.size (gc l) e w'/\au w w':=by
 have hsz:(ah l).size=l.length:=a6 l;have HZ:=G hz;clear hz;have HRb:=G (oC l);have HRo:=G (vV l);have HRe:=G (ud l);by_cases hbig:4000<l.length
 ·have hbig':(4000:Int)<l.length:=by omega
  go_enter func58,ntmps58;go_wp2_with fail;exact bodyPost_ret (v:= .tuple #[.slice none 0 0, .int .i64 4000, .int .i64 6]) (by simp[results,results58,go_sem]) rfl ⟨by rw[HRb.out hbig];exact⟨none,0,rfl,gx.nil_ _ _ _⟩,aO _⟩
 ·have hbig': ¬(4000:Int)<l.length:=by omega
  go_enter func58,ntmps58;go_wp2_with fail
  go_loopw [2,3] (fun vb vp wr=> ∃(B:Option Addr) (cap:Nat) (ts:List bK) (p f:Nat),vb= .slice B ts.length cap/\gx wr w.heap.size 206 (.slice B ts.length cap) ts/\vp= .int .i64 (p:Int)/\p<=l.length/\ts.length<=p/\l.length+1<=f+p/\
   Hid (mR l=kI ts (gq f (l.drop p) p))/\au w wr) (fun _ vp _=>l.length+1-(intOf vp).toNat)
  case atStart=>exact⟨none,0,[],0,l.length+1,rfl,gx.nil_ _ _ _,rfl,aF _,ag _,by omega,G (rK l),aO _⟩
  case round=>
   obtain⟨B,cap,ts,p,f,rfl,hown,rfl,hp,htp,hfp,HJ,hx⟩:=hrel;obtain⟨f,rfl⟩: ∃g,f=g+1:=⟨f-1,by omega⟩
   have HO:=G hown;have HX:=G hx;clear hown hx;have hps:p<=(ah l).size:=by rw[hsz];exact hp
   have hex:(ah l).extract p l.length=ah (l.drop p):=by
    have:=ew l p l.length;rw[bC (ag _)]at this;exact this
   have HBL:=G (fun w=>vr (l.drop p) (by rw[bg];omega) w);have hsk:p+cD false (l.drop p)<=l.length:=by have:=j5 false (l.drop p);rw[bg]at this;omega
   obtain⟨q,hq⟩: ∃q,q=p+cD false (l.drop p):=⟨_,rfl⟩
   have hqi:(p:Int)+(cD false (l.drop p):Int)=(q:Int):=by omega
   by_cases hend:l.length<=q
   ·have HT:=G (vU HJ.out (by omega));have hqn:q=l.length:=by omega
    have hend':(l.length:Int)<=q:=by omega
    generalize cD false (l.drop p)=s at*;clear hq HJ;go_wp2_with (go_at_call 96;refine(HBL.out _).mono ?_;rintro e w' ⟨rfl,rfl⟩);exact bodyPost_ret (v:= .tuple #[.slice B ts.length cap, .int .i64 0, .int .i64 0]) (by simp[results,results58,go_sem]) rfl ⟨by rw[HRo.out _ hbig HT.out];exact⟨B,cap,rfl,HO.out⟩,HX.out⟩
   ·have hend': ¬(l.length:Int)<=q:=by omega
    have hqs:q<=(ah l).size:=by rw[hsz];omega
    have hexq:(ah l).extract q l.length=ah (l.drop q):=by
     have:=ew l q l.length;rw[bC (ag _)]at this;exact this
    obtain⟨c,r,hcr⟩: ∃c r,l.drop q=c::r:=by
     cases h:l.drop q with
     |nil=>have:=congrArg List.length h;rw[bg]at this;simp at this;omega
     |cons c r=>exact⟨c,r,rfl⟩
    have hlr:(c::r).length=l.length-q:=by rw[<-hcr,bg]
    rw[hcr]at hexq;have HTK:=G (fun w h=>uf c r (by omega) w h)
    cases ht:jX (c::r)with
    |error e=>
     have HT:=G (vT HJ.out hq hcr ht);have he:e=3\/e=2\/e=6:=vX ht;rw[ht]at HTK;have htv:ct (.error e)= .tuple #[.agg #[.int .i64 0, .string ⟨#[]⟩, .int .i64 0, .int .i64 0], .int .i64 0, .int .i64 e]:=rfl;rw[htv]at HTK;have hne: ¬e=0:=by omega
     have hne2:(e==0)=false:=by simp[hne]
     generalize cD false (l.drop p)=s at*;clear hq HJ ht hcr htv he
     go_wp2_with (first
      |(go_at_call 96;refine(HBL.out _).mono ?_;rintro e w' ⟨rfl,rfl⟩)
      |(go_at_call 97;refine(HTK.out _ (HZ.out.ext HX.out)).mono ?_;rintro e' w1 ⟨rfl,hE⟩;have HE:=G (HX.out.trans hE);clear hE))
     exact bodyPost_ret (v:= .tuple #[.slice none 0 0, .int .i64 q, .int .i64 e]) (by simp[results,results58,go_sem]) rfl ⟨by rw[HRe.out _ _ hbig HT.out];exact⟨none,0,rfl,gx.nil_ _ _ _⟩,HE.out.alloc' _⟩
    |ok y=>
     obtain⟨⟨k,t,v⟩,n⟩:=y;have HT:=G (uc HJ.out hq hcr ht);obtain⟨hn1,hn2⟩:=nk ht;rw[ht]at HTK;have htv:ct (.ok ((k,t,v),n))= .tuple #[.agg #[.int .i64 k, .string (ah t), .int .i64 v, .int .i64 0], .int .i64 (n:Int), .int .i64 0]:=rfl;rw[htv]at HTK;generalize cD false (l.drop p)=s at*;clear hq HJ ht hcr htv
     go_wp2_with (first
      |(go_at_call 96;refine(HBL.out _).mono ?_;rintro e w' ⟨rfl,rfl⟩)
      |(go_at_call 97;refine(HTK.out _ (HZ.out.ext HX.out)).mono ?_;rintro e' w1 ⟨rfl,hE⟩;have HE1:=G (HX.out.trans ((hE.alloc' (.cells #[.int .i64 k, .string (ah t), .int .i64 v, .int .i64 (q:Int)] 206)).alloc' (.cells #[.int .i64 k, .string (ah t), .int .i64 v, .int .i64 (q:Int)] 206)));have HO1:=G (HO.out.ext ((hE.alloc' (.cells #[.int .i64 k, .string (ah t), .int .i64 v, .int .i64 (q:Int)] 206)).alloc' (.cells #[.int .i64 k, .string (ah t), .int .i64 v, .int .i64 (q:Int)] 206)));have HG1:=G (yE w1 206 ⟨k,t,v,(q:Int)⟩);clear hE)
      |(at_builtin;refine ng tt rfl _ _ rfl w.heap.size (.slice B ts.length cap) ts rfl HO1.out (w1.heap.size+1) ⟨k,t,v,(q:Int)⟩ rfl HG1.out (by omega) HE1.out.size ?_;intro A3 c3 w3 ho3 hg3 _;have HO3:=G ho3;have HG3:=G hg3;clear ho3 hg3))
     go_roundw
     case rel=>
      have hrow:=fun k hk=>(World.ownsRow.lt HO1.out k hk).1;have hx3:=HE1.out.grown HG3.out (fun k hk=>by have:=hrow k hk;omega);refine⟨A3,c3,ts++[⟨k,t,v,(q:Int)⟩],q+n,f,by rw[Z];rfl,?_,by go_num,by omega,by rw[Z];simp;omega,by omega,HT,hx3⟩;rw[Z];exact HO3.out
     case measure=>simp[intOf];omega
end
section
open Go.RowKit
theorem dG (a b:List UInt8):ah a++ah b=ah (a++b):=by
 apply kE;simp[ah]
end
section
open Go.RowKit
end
section
open Go.RowKit
end
section
open Go.RowKit
end
section
open Go.RowKit
end
end Go.Proofs.YtddomeddabfinaaGreatDoor
