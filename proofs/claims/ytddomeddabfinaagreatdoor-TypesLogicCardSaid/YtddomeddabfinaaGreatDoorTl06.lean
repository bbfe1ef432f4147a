/-
  Parts of the proof: LexI LexJ LexK LexL LexM LexN LexO.
-/
import Derived.Test.YtddomeddabfinaaGreatDoorTl05
set_option maxRecDepth 100000
set_option maxHeartbeats 8000000
set_option linter.unusedVariables false
set_option linter.unusedSimpArgs false
set_option linter.unusedSectionVars false
namespace Go.Proofs.YtddomeddabfinaaGreatDoor
open Go.Proofs.Tryz
open Go.RowKit
def tkCells (t:Tok):List Value:=[.int .i64 t.k, .string (str t.t), .int .i64 t.v, .int .i64 t.f]
def tkRow (ts:List Tok):List Value:=ts.flatMap tkCells
theorem tkRow_app (a b:List Tok):tkRow (a++b)=tkRow a++tkRow b:=by simp[tkRow]
def OwnT (w:World) (base:Nat) (e:TypeId) (v:Value) (ts:List Tok):Prop:=w.ownsRow base e 4 v ts.length (tkRow ts)
theorem OwnT.nil_ (w:World) (base:Nat) (e:TypeId):OwnT w base e (.slice none 0 0) []:=World.ownsRow_nil w base e 4
theorem OwnT.form {w:World} {base:Nat} {e:TypeId} {v:Value} {ts:List Tok} (h:OwnT w base e v ts): ∃A cap,v= .slice A ts.length cap:=by
 rcases h.2 with⟨rfl,h0⟩|⟨g,cap,cur,rfl,_⟩
 ·exact⟨none,0,by rw[h0]⟩
 ·exact⟨_,_,rfl⟩
theorem OwnT.grown {w w':World} {base:Nat} {e:TypeId} {v:Value} {ts:List Tok} {row:Option Nat} (h:OwnT w base e v ts) (hg:w.grownBy w' row) (hr:v.ownBlock=none\/v.ownBlock≠row):OwnT w' base e v ts:=World.ownsRow.kept h hg hr
theorem OwnT.ext {w w':World} {base:Nat} {e:TypeId} {v:Value} {ts:List Tok} (h:OwnT w base e v ts) (he:Ext w w'):OwnT w' base e v ts:=h.grown (he.grownBy none) (by cases v.ownBlock<;>simp)
structure TokT (P:Program) (t e:TypeId):Prop where
 under:P.underlying t=some (.slice e)
 info:(P.info? e).map (fun i=>(i.zero,i.size,i.bytes))=some (some (.agg #[.int .i64 0, .string ⟨#[]⟩, .int .i64 0, .int .i64 0]),4,40)
theorem run_appendT {P:Program} {w:World} {t e:TypeId} (hT:TokT P t e) (ty:TypeId) (base:Nat) (v:Value) (ts:List Tok) (hown:OwnT w base e v ts) (g:Nat) (x:Tok)
  (hg:w.heap[g]? =some (.cells #[.int .i64 x.k, .string (str x.t), .int .i64 x.v, .int .i64 x.f] e (0,0))) (hb:ts.length<=1073741824) (hbase:base<=w.heap.size):
  ∃A' cap' w',(Builtin.append_ #[t,t] ty #[v, .slice (some ⟨g,0,none⟩) 1 1]).run P w= .ok (.slice A' (ts.length+1) cap') w'/\OwnT w' base e (.slice A' (ts.length+1) cap') (ts++[x])/\w.grownBy w' v.ownBlock/\
   (Value.ownBlock (.slice A' (ts.length+1) cap')=v.ownBlock\/Value.ownBlock (.slice A' (ts.length+1) cap')=some w.heap.size):=by
 obtain⟨i,hi,hz,hz1,hz2⟩:=info_parts hT.info;obtain⟨v',w',hr,h2,h3,_,h5⟩:=run_append_own_at (P:=P) w base t ty e i (.agg #[.int .i64 0, .string ⟨#[]⟩, .int .i64 0, .int .i64 0]) 4 40 hT.under hi hz hz1 hz2 rfl (by decide) v ts.length (tkRow ts) hown ⟨g,0,none⟩ 1 1 (tkCells x) rfl
  (fun j y hj=>by
   rw[Addr.add_lit,Nat.zero_add,cell_of_row w g j _ e (0,0) hg]
   simpa[tkCells]using hj) (by simp[tkCells,Value.oneCell']) (by simp only[maxLen];omega) (by omega) hbase
 have hO:OwnT w' base e v' (ts++[x]):=by
  unfold OwnT;rw[List.length_append,tkRow_app];simpa[tkRow]using h2
 obtain⟨A',cap',rfl⟩:=hO.form;rw[List.length_append]at hO hr h5;exact⟨A',cap',w',hr,hO,h3,h5⟩
theorem wpList_appendT {P:Program} {w:World} {ops:Array Oper} {rest:List Oper} {o:Oper} {a:Act} {Q:Exit->Act->World->Prop} {t e:TypeId} (hT:TokT P t e) (hgd:o.guard=none) (s x:Operand)
  (ho:o.op= .call {callee:= .builtin .append,args:= #[s,x],argTypes:= #[t,t]}) (base:Nat) (v:Value) (ts:List Tok) (hv:a.eval s=v) (hown:OwnT w base e v ts)
  (g:Nat) (y:Tok) (hx:a.eval x= .slice (some ⟨g,0,none⟩) 1 1) (hg:w.heap[g]? =some (.cells #[.int .i64 y.k, .string (str y.t), .int .i64 y.v, .int .i64 y.f] e (0,0))) (hb:ts.length<=1073741824) (hbase:base<=w.heap.size)
  (h: ∀A' cap' w',OwnT w' base e (.slice A' (ts.length+1) cap') (ts++[y])->w.grownBy w' v.ownBlock->
   (Value.ownBlock (.slice A' (ts.length+1) cap')=v.ownBlock\/Value.ownBlock (.slice A' (ts.length+1) cap')=some w.heap.size)->wpList P ops Q rest (a.put o.dst (.slice A' (ts.length+1) cap')) w'):
  wpList P ops Q (o::rest) a w:=by
 obtain⟨A',cap',w',hr,h1,h2,h3⟩:=run_appendT (P:=P) (w:=w) hT o.type base v ts hown g y hg hb hbase;refine wpList_plain hgd fun K hK=> ?_;unfold Oper.wp execOp;simp only[ho,resolve,invoke,builtin,Sem.run_bind,Sem.run_pure,Result.andThen_ok,List.map_toArray,List.map_cons,List.map_nil,hv,hx,hr];exact hK _ _ (h A' cap' w' h1 h2 h3)
theorem tt:TokT prog 147 206:=⟨underlying147,by kernel_rfl⟩
theorem litF_pos: ∀(f:Nat) (m:List UInt8) (t:List UInt8) (n:Nat),litF f m=some (t,n)->1<=n/\n<=m.length
 |0,m,t,n,h=>by cases h
 |f+1,[],t,n,h=>by cases h
 |f+1,c::r,t,n,h=>by
  simp only[litF]at h;split at h
  ·cases h;exact⟨Nat.le_refl _,by simp⟩
  ·split at h
   ·cases h
   ·obtain⟨⟨t',n'⟩,h1,h2⟩:=Option.map_eq_some_iff.1 h
    cases h2;have:=litF_pos f _ t' n' h1;have h3:=elemL_le (c::r);rw[List.length_drop]at this;omega
theorem head_some_length {l:List UInt8} {c:UInt8} (h:l.head? =some c):1<=l.length:=by cases l<;>simp at h⊢
theorem tokT_len {c:UInt8} {r:List UInt8} {x:Int×List UInt8×Int} {n:Nat} (h:tokT (c::r)= .ok (x,n)):1<=n/\n<=(c::r).length:=by
 have hp:letB c=true->1<=spanN prtB (c::r):=fun h=>by simp[spanN,prtB,h]
 have hd:digB c=true->1<=spanN digB (c::r):=fun h=>by simp[spanN,h]
 have hp2:=spanN_le prtB (c::r);have hd2:=spanN_le digB (c::r);simp only[tokT]at h;split at h
 ·rename_i hL;unfold wordT at h;split at h
  ·cases h;exact⟨hp hL,hp2⟩
  ·split at h
   ·cases h
   ·cases h;exact⟨hp hL,hp2⟩
 ·split at h
  ·rename_i hD;unfold numT at h;split at h
   ·cases h
   ·split at h
    ·cases h
    ·cases h;exact⟨hd hD,hd2⟩
  ·split at h
   ·unfold charT at h;split at h
    ·cases h
    ·rename_i hc
     cases h;have h3:((c::r).drop ((elemL ((c::r).drop 1)).2+1)).head? =some 39:=by
      refine Classical.byContradiction fun hne=>hc (.inr (.inr hne))
     have:=head_some_length h3;rw[List.length_drop]at this;omega
   ·split at h
    ·unfold textT at h;split at h
     ·cases h
     ·rename_i t n' hl;split at h
      ·cases h
      ·cases h;have:=litF_pos _ _ _ _ hl;rw[List.length_drop]at this;omega
    ·unfold markT at h;split at h
     ·rename_i hc
      cases h;have: ∀t∈two,t.length=2:=by decide
      have h2:((c::r).take 2).length=2:=this _ (List.contains_iff_mem.1 hc);rw[List.length_take]at h2;omega
     ·split at h
      ·cases h;exact⟨Nat.le_refl _,by simp⟩
      ·cases h
theorem tokT_err {c:UInt8} {r:List UInt8} {e:Int} (h:tokT (c::r)= .error e):e=3\/e=2\/e=6:=by
 simp only[tokT]at h;unfold wordT numT charT textT markT at h;repeat' split at h
 all_goals cases h
 all_goals first|exact .inl rfl|exact .inr (.inl rfl)|exact .inr (.inr rfl)
def joinE (ts:List Tok):Except (Nat×Int) (List Tok)->Except (Nat×Int) (List Tok)
 | .error e=> .error e
 | .ok us=> .ok (ts++us)
theorem toks_start (l:List UInt8):toks l=joinE [] (toksF (l.length+1) (l.drop 0) 0):=by
 unfold toks;rw[List.drop_zero]
 cases toksF (l.length+1) l 0<;>simp[joinE]
theorem toks_end {l:List UInt8} {f p:Nat} {ts:List Tok} (h:toks l=joinE ts (toksF (f+1) (l.drop p) p)) (he:l.length<=p+skipC false (l.drop p)):toks l= .ok ts:=by
 rw[h];have:(l.drop p).drop (skipC false (l.drop p))=[]:=by
  rw[List.drop_drop];exact List.drop_of_length_le he
 simp only[toksF,this,joinE,List.append_nil]
theorem toks_err {l:List UInt8} {f p q:Nat} {ts:List Tok} {c:UInt8} {r:List UInt8} {e:Int} (h:toks l=joinE ts (toksF (f+1) (l.drop p) p)) (hq:q=p+skipC false (l.drop p)) (hd:l.drop q=c::r) (ht:tokT (c::r)= .error e):toks l= .error (q,e):=by
 rw[h];have:(l.drop p).drop (skipC false (l.drop p))=c::r:=by
  rw[List.drop_drop,<-hq,hd]
 simp only[toksF,this,ht,joinE,hq]
theorem toks_step {l:List UInt8} {f p q:Nat} {ts:List Tok} {c:UInt8} {r:List UInt8} {k:Int} {t:List UInt8} {v:Int} {n:Nat} (h:toks l=joinE ts (toksF (f+1) (l.drop p) p)) (hq:q=p+skipC false (l.drop p)) (hd:l.drop q=c::r)
  (ht:tokT (c::r)= .ok ((k,t,v),n)):toks l=joinE (ts++[⟨k,t,v,(q:Nat)⟩]) (toksF f (l.drop (q+n)) (q+n)):=by
 rw[h];have h1:(l.drop p).drop (skipC false (l.drop p))=c::r:=by
  rw[List.drop_drop,<-hq,hd]
 have h2:l.drop (q+n)=(c::r).drop n:=by rw[<-hd,List.drop_drop]
 rw[h2];simp only[toksF,h1,ht,<-hq]
 cases toksF f ((c::r).drop n) (q+n)<;>simp[joinE]
end Go.Proofs.YtddomeddabfinaaGreatDoor
namespace Go.Proofs.YtddomeddabfinaaGreatDoor
open Go.Proofs.Tryz
open Go.RowKit
def TokensP (ty:TypeId) (base:Nat) (r:List Tok×Int×Int) (e:Ending) (w':World):Prop:=
 ∃A cap,e= .returned (.tuple #[.slice A r.1.length cap, .int .i64 r.2.1, .int .i64 r.2.2])/\OwnT w' base ty (.slice A r.1.length cap) r.1
theorem toksR_big (l:List UInt8) (h:4000<l.length):toksR l=([],4000,6):=by unfold toksR;rw[if_pos h]
theorem toksR_ok (l:List UInt8) (ts:List Tok) (h: ¬4000<l.length) (ht:toks l= .ok ts):toksR l=(ts,0,0):=by unfold toksR;rw[if_neg h,ht]
theorem toksR_err (l:List UInt8) (p:Nat) (e:Int) (h: ¬4000<l.length) (ht:toks l= .error (p,e)):toksR l=([],(p:Int),e):=by unfold toksR;rw[if_neg h,ht]
theorem tok_new (w:World) (e:TypeId) (x:Tok):((w.alloc (.cells #[.int .i64 x.k, .string (str x.t), .int .i64 x.v, .int .i64 x.f] e)).alloc (.cells #[.int .i64 x.k, .string (str x.t), .int .i64 x.v, .int .i64 x.f] e)).heap[w.heap.size+1]? =some (.cells #[.int .i64 x.k, .string (str x.t), .int .i64 x.v, .int .i64 x.f] e (0,0)):=by
 have:=heap_alloc_new (w.alloc (.cells #[.int .i64 x.k, .string (str x.t), .int .i64 x.v, .int .i64 x.f] e)) (.cells #[.int .i64 x.k, .string (str x.t), .int .i64 x.v, .int .i64 x.f] e);rwa [World.size_alloc]at this
theorem tokens_any (l:List UInt8) (hl:l.length<=100000) (w:World) (hz:EZ w):Calls prog 58 #[.string (str l)] w fun e w'=>TokensP 206 w.heap.size (toksR l) e w'/\Ext w w':=by
 have hsz:(str l).size=l.length:=str_size l;have HZ:=hide hz;clear hz;have HRb:=hide (toksR_big l);have HRo:=hide (toksR_ok l);have HRe:=hide (toksR_err l);by_cases hbig:4000<l.length
 ·have hbig':(4000:Int)<l.length:=by omega
  go_enter func58,ntmps58;go_wp2_with fail;exact bodyPost_ret (v:= .tuple #[.slice none 0 0, .int .i64 4000, .int .i64 6]) (by simp[results,results58,go_sem]) rfl ⟨by rw[HRb.out hbig];exact⟨none,0,rfl,OwnT.nil_ _ _ _⟩,Ext.refl _⟩
 ·have hbig': ¬(4000:Int)<l.length:=by omega
  go_enter func58,ntmps58;go_wp2_with fail
  go_loopw [2,3] (fun vb vp wr=> ∃(B:Option Addr) (cap:Nat) (ts:List Tok) (p f:Nat),vb= .slice B ts.length cap/\OwnT wr w.heap.size 206 (.slice B ts.length cap) ts/\vp= .int .i64 (p:Int)/\p<=l.length/\ts.length<=p/\l.length+1<=f+p/\
   Hid (toks l=joinE ts (toksF f (l.drop p) p))/\Ext w wr) (fun _ vp _=>l.length+1-(intOf vp).toNat)
  case atStart=>exact⟨none,0,[],0,l.length+1,rfl,OwnT.nil_ _ _ _,rfl,Nat.zero_le _,Nat.le_refl _,by omega,hide (toks_start l),Ext.refl _⟩
  case round=>
   obtain⟨B,cap,ts,p,f,rfl,hown,rfl,hp,htp,hfp,HJ,hx⟩:=hrel;obtain⟨f,rfl⟩: ∃g,f=g+1:=⟨f-1,by omega⟩
   have HO:=hide hown;have HX:=hide hx;clear hown hx;have hps:p<=(str l).size:=by rw[hsz];exact hp
   have hex:(str l).extract p l.length=str (l.drop p):=by
    have:=str_extract l p l.length;rw[List.take_of_length_le (Nat.le_refl _)]at this;exact this
   have HBL:=hide (fun w=>blank_any (l.drop p) (by rw[List.length_drop];omega) w);have hsk:p+skipC false (l.drop p)<=l.length:=by have:=skipC_le false (l.drop p);rw[List.length_drop]at this;omega
   obtain⟨q,hq⟩: ∃q,q=p+skipC false (l.drop p):=⟨_,rfl⟩
   have hqi:(p:Int)+(skipC false (l.drop p):Int)=(q:Int):=by omega
   by_cases hend:l.length<=q
   ·have HT:=hide (toks_end HJ.out (by omega));have hqn:q=l.length:=by omega
    have hend':(l.length:Int)<=q:=by omega
    generalize skipC false (l.drop p)=s at*;clear hq HJ;go_wp2_with (go_at_call 96;refine(HBL.out _).mono ?_;rintro e w' ⟨rfl,rfl⟩);exact bodyPost_ret (v:= .tuple #[.slice B ts.length cap, .int .i64 0, .int .i64 0]) (by simp[results,results58,go_sem]) rfl ⟨by rw[HRo.out _ hbig HT.out];exact⟨B,cap,rfl,HO.out⟩,HX.out⟩
   ·have hend': ¬(l.length:Int)<=q:=by omega
    have hqs:q<=(str l).size:=by rw[hsz];omega
    have hexq:(str l).extract q l.length=str (l.drop q):=by
     have:=str_extract l q l.length;rw[List.take_of_length_le (Nat.le_refl _)]at this;exact this
    obtain⟨c,r,hcr⟩: ∃c r,l.drop q=c::r:=by
     cases h:l.drop q with
     |nil=>have:=congrArg List.length h;rw[List.length_drop]at this;simp at this;omega
     |cons c r=>exact⟨c,r,rfl⟩
    have hlr:(c::r).length=l.length-q:=by rw[<-hcr,List.length_drop]
    rw[hcr]at hexq;have HTK:=hide (fun w h=>token_any c r (by omega) w h)
    cases ht:tokT (c::r)with
    |error e=>
     have HT:=hide (toks_err HJ.out hq hcr ht);have he:e=3\/e=2\/e=6:=tokT_err ht;rw[ht]at HTK;have htv:tokV (.error e)= .tuple #[.agg #[.int .i64 0, .string ⟨#[]⟩, .int .i64 0, .int .i64 0], .int .i64 0, .int .i64 e]:=rfl;rw[htv]at HTK;have hne: ¬e=0:=by omega
     have hne2:(e==0)=false:=by simp[hne]
     generalize skipC false (l.drop p)=s at*;clear hq HJ ht hcr htv he
     go_wp2_with (first
      |(go_at_call 96;refine(HBL.out _).mono ?_;rintro e w' ⟨rfl,rfl⟩)
      |(go_at_call 97;refine(HTK.out _ (HZ.out.ext HX.out)).mono ?_;rintro e' w1 ⟨rfl,hE⟩;have HE:=hide (HX.out.trans hE);clear hE))
     exact bodyPost_ret (v:= .tuple #[.slice none 0 0, .int .i64 q, .int .i64 e]) (by simp[results,results58,go_sem]) rfl ⟨by rw[HRe.out _ _ hbig HT.out];exact⟨none,0,rfl,OwnT.nil_ _ _ _⟩,HE.out.alloc' _⟩
    |ok y=>
     obtain⟨⟨k,t,v⟩,n⟩:=y;have HT:=hide (toks_step HJ.out hq hcr ht);obtain⟨hn1,hn2⟩:=tokT_len ht;rw[ht]at HTK;have htv:tokV (.ok ((k,t,v),n))= .tuple #[.agg #[.int .i64 k, .string (str t), .int .i64 v, .int .i64 0], .int .i64 (n:Int), .int .i64 0]:=rfl;rw[htv]at HTK;generalize skipC false (l.drop p)=s at*;clear hq HJ ht hcr htv
     go_wp2_with (first
      |(go_at_call 96;refine(HBL.out _).mono ?_;rintro e w' ⟨rfl,rfl⟩)
      |(go_at_call 97;refine(HTK.out _ (HZ.out.ext HX.out)).mono ?_;rintro e' w1 ⟨rfl,hE⟩;have HE1:=hide (HX.out.trans ((hE.alloc' (.cells #[.int .i64 k, .string (str t), .int .i64 v, .int .i64 (q:Int)] 206)).alloc' (.cells #[.int .i64 k, .string (str t), .int .i64 v, .int .i64 (q:Int)] 206)));have HO1:=hide (HO.out.ext ((hE.alloc' (.cells #[.int .i64 k, .string (str t), .int .i64 v, .int .i64 (q:Int)] 206)).alloc' (.cells #[.int .i64 k, .string (str t), .int .i64 v, .int .i64 (q:Int)] 206)));have HG1:=hide (tok_new w1 206 ⟨k,t,v,(q:Int)⟩);clear hE)
      |(at_builtin;refine wpList_appendT tt rfl _ _ rfl w.heap.size (.slice B ts.length cap) ts rfl HO1.out (w1.heap.size+1) ⟨k,t,v,(q:Int)⟩ rfl HG1.out (by omega) HE1.out.size ?_;intro A3 c3 w3 ho3 hg3 _;have HO3:=hide ho3;have HG3:=hide hg3;clear ho3 hg3))
     go_roundw
     case rel=>
      have hrow:=fun k hk=>(World.ownsRow.lt HO1.out k hk).1;have hx3:=HE1.out.grown HG3.out (fun k hk=>by have:=hrow k hk;omega);refine⟨A3,c3,ts++[⟨k,t,v,(q:Int)⟩],q+n,f,by rw[List.length_append];rfl,?_,by go_num,by omega,by rw[List.length_append];simp;omega,by omega,HT,hx3⟩;rw[List.length_append];exact HO3.out
     case measure=>simp[intOf];omega
end Go.Proofs.YtddomeddabfinaaGreatDoor
namespace Go.Proofs.YtddomeddabfinaaGreatDoor
open Go.Proofs.Tryz
open Go.RowKit
theorem str_app (a b:List UInt8):str a++str b=str (a++b):=by
 apply ByteArray.ext;simp[str]
end Go.Proofs.YtddomeddabfinaaGreatDoor
namespace Go.Proofs.YtddomeddabfinaaGreatDoor
open Go.Proofs.Tryz
open Go.RowKit
end Go.Proofs.YtddomeddabfinaaGreatDoor
namespace Go.Proofs.YtddomeddabfinaaGreatDoor
open Go.Proofs.Tryz
open Go.RowKit
end Go.Proofs.YtddomeddabfinaaGreatDoor
namespace Go.Proofs.YtddomeddabfinaaGreatDoor
open Go.Proofs.Tryz
open Go.RowKit
end Go.Proofs.YtddomeddabfinaaGreatDoor
namespace Go.Proofs.YtddomeddabfinaaGreatDoor
open Go.Proofs.Tryz
open Go.RowKit
end Go.Proofs.YtddomeddabfinaaGreatDoor
