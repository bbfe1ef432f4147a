/-
  Parts of the proof: CoD CoE.
-/
import Derived.Test.YtoedmpgicdekmaaGreatDoorCq00
import Derived.Deep.RegionLaw
import Derived.Deep.RegionWith
import Derived.Deep.AppendLies
import Derived.Test.YtoedmpgicdekmaaGreatDoorCq35
import Derived.Test.YtoedmpgicdekmaaGreatDoorCq15
set_option maxRecDepth 100000
set_option maxHeartbeats 8000000
set_option linter.unusedVariables false
set_option linter.unusedSimpArgs false
set_option linter.unusedSectionVars false
namespace Go.Proofs.YtoedmpgicdekmaaGreatDoor
open Go.Proofs.Tryz
section
open Go.RowKit
theorem ky {P:Program} {w:World} {ops:Array Oper} {o:Oper} {a:Act} {K:Act->World->Prop} {Q:Exit->Act->World->Prop} {E:Prop} {t e:TypeId} {size bytes:Nat} {z:Value} (hT:mc P t e size bytes z) (hgd:o.guard=none) (s x:Operand)
  (ho:o.op= .call {callee:= .builtin .append,args:= #[s,x],argTypes:= #[t,t]}) (base:Nat) (v:Value) (n:Nat) (xs:List Value) (hv:a.eval s=v) (hown:w.ownsRow base e size v n xs)
  (g:Nat) (news:List Value) (hx:a.eval x= .slice (some ⟨g,0,none⟩) 1 1) (hg:w.heap[g]? =some (.cells news.toArray e (0,0))) (hl:news.length=size) (h1: ∀u∈news,u.oneCell'=true) (hb:n<=1073741824) (hy:bytes<=1000) (hbase:base<=w.heap.size)
  (h: ∀A' cap' w',w'.ownsRow base e size (.slice (some ⟨A',0,none⟩) (n+1) cap') (n+1) (xs++news)->w.grownBy w' v.ownBlock->(some A'=v.ownBlock\/A'=w.heap.size)->
   K (a.put o.dst (.slice (some ⟨A',0,none⟩) (n+1) cap')) w'):
  if Region.wanted o (yielded ops a.tmps)=true then Oper.wp P o a w K Q else E:=by
 have hw:Region.wanted o (yielded ops a.tmps)=true:=by simp[Region.wanted,hgd]
 rw[if_pos hw];exact AF hT s x ho base v n xs hv hown g news hx hg hl h1 hb hy hbase h
theorem lL (x:Nat×Nm): ∀u∈lM x,u.oneCell'=true:=by simp[lM,Value.oneCell']
theorem n_ (l:List (Nat×Nm)) (x:Nat×Nm):eU (l++[x])=eU l++lM x:=by simp[eU]
def CS.addD (s:CS) (x:Nat×Nm):CS:={s with dats:=s.dats++[x]}
theorem gV.datm {k:CC} {at_:List (Nm×Int)} {O:Nat->Prop} {w W0 w1:World} {s:CS} {vc vt vl vd vs:Value} (h:gV k at_ vc vt vl vd vs w s) (hO: ∀b,O b↔some b∈bw k vc vt vl vd vs) (hx:au w W0) (x:Nat×Nm) {A cap n:Nat} (he:s.dats.length=n)
  (hn:w1.ownsRow k.base 155 2 (.slice (some ⟨A,0,none⟩) (n+1) cap) (n+1) (eU s.dats++lM x)) (hg:W0.grownBy w1 vd.ownBlock) (hA:some A=vd.ownBlock\/A=W0.heap.size):
  aP w1 k.c 95 #[k.va,k.fa,vc,vt, .map (some k.bp), .map (some k.bs), .map (some k.ba),vl,vd,vs, .int .i64 s.frame]/\CP k at_ O w (s.addD x) (w1.setCell ⟨k.c,8,none⟩ (.slice (some ⟨A,0,none⟩) (n+1) cap)):=by
 subst he;have hW:=h.keep hx.size fun b hb=>hx.obj (h.lo b hb).2;have hb:=hW.blk.grown hg (eE h).2.2.2.2;have hz:=hx.size;refine⟨hb,?_⟩;obtain⟨O',h1,h2,h3⟩:=hW.dats_cp hO (c':=s.dats++[x]) (v':= .slice (some ⟨A,0,none⟩) (s.dats.length+1) cap) (W:=w1.setCell ⟨k.c,8,none⟩ (.slice (some ⟨A,0,none⟩) (s.dats.length+1) cap)) (by simpa using hb.set 8 (.slice (some ⟨A,0,none⟩) (s.dats.length+1) cap))
  (by rw[ab,n_];exact hn.kept (gJ w1 k.c 8 _) (.inr fun e=>by
   rcases hA with hA|hA
   ·exact(eE h).2.2.2.2 (by rw[<-hA];exact e.symm)
   ·have h5:=(h.lo k.c (by simp[bw])).2;have e:A=k.c:=ai e
    omega)) (hA.imp id fun e=>by rw[e];rfl) ((iJ hg fun b e=> .inr e).set (fun _=> .inl rfl) _)
 exact⟨O',h1,dF.pre hx ⟨h2,h3⟩⟩
def CS.addC (s:CS) (x:Nat×Nm):CS:={s with calls:=s.calls++[x]}
theorem gV.callm {k:CC} {at_:List (Nm×Int)} {O:Nat->Prop} {w W0 w1:World} {s:CS} {vc vt vl vd vs:Value} (h:gV k at_ vc vt vl vd vs w s) (hO: ∀b,O b↔some b∈bw k vc vt vl vd vs) (hx:au w W0) (x:Nat×Nm) {A cap n:Nat} (he:s.calls.length=n)
  (hn:w1.ownsRow k.base 155 2 (.slice (some ⟨A,0,none⟩) (n+1) cap) (n+1) (eU s.calls++lM x)) (hg:W0.grownBy w1 vl.ownBlock) (hA:some A=vl.ownBlock\/A=W0.heap.size):
  aP w1 k.c 95 #[k.va,k.fa,vc,vt, .map (some k.bp), .map (some k.bs), .map (some k.ba),vl,vd,vs, .int .i64 s.frame]/\CP k at_ O w (s.addC x) (w1.setCell ⟨k.c,7,none⟩ (.slice (some ⟨A,0,none⟩) (n+1) cap)):=by
 subst he;have hW:=h.keep hx.size fun b hb=>hx.obj (h.lo b hb).2;have hb:=hW.blk.grown hg (eE h).2.2.2.1;have hz:=hx.size;refine⟨hb,?_⟩;obtain⟨O',h1,h2,h3⟩:=hW.calls_cp hO (c':=s.calls++[x]) (v':= .slice (some ⟨A,0,none⟩) (s.calls.length+1) cap) (W:=w1.setCell ⟨k.c,7,none⟩ (.slice (some ⟨A,0,none⟩) (s.calls.length+1) cap)) (by simpa using hb.set 7 (.slice (some ⟨A,0,none⟩) (s.calls.length+1) cap))
  (by rw[ab,n_];exact hn.kept (gJ w1 k.c 7 _) (.inr fun e=>by
   rcases hA with hA|hA
   ·exact(eE h).2.2.2.1 (by rw[<-hA];exact e.symm)
   ·have h5:=(h.lo k.c (by simp[bw])).2;have e:A=k.c:=ai e
    omega)) (hA.imp id fun e=>by rw[e];rfl) ((iJ hg fun b e=> .inr e).set (fun _=> .inl rfl) _)
 exact⟨O',h1,dF.pre hx ⟨h2,h3⟩⟩
theorem B6 {k:CC} {at_:List (Nm×Int)} {O:Nat->Prop} {w:World} {s:CS} (m:CX k at_ O w s) (r:Int) (nm:Nm) (hb:s.big<=945000000):
  Calls prog 185 #[.pointer (some ⟨k.c,0,none⟩), .int .i64 r, .string (an nm)] w fun e w'=>e= .returned (.tuple #[])/\CP k at_ O w (s.dat r nm) w':=by
 have hD:au w w.drew:=d9 (aG w);obtain⟨vc,vt,vl,vd,vs,h,hO⟩:=m.ext hD;have hc:=aT hb;have hd:=qQ hb;have HV:=G (sP h 1 1 r 0 rfl (by omega));have HS:=G (iK (O:=O) hD);have c0:=h.blk.cell;clear m h hb;go_enter func185,ntmps185
 go_region_law (first
  |(refine ky Fs rfl _ _ rfl k.base _ s.dats.length (eU s.dats) rfl (HC.out.dats.alloc _) w1.heap.size (lM (s.code.length,nm)) rfl (aw w1 _ _) rfl (lL _) (by omega) (by decide) (by rw[World.size_alloc];have:=(eE HC.out).1;omega) ?_;intro A cap w2 hn hg hA;obtain⟨hb1,hp⟩:=HC.out.datm (n:=s.dats.length) (fun b=>f9) (aa w1 _) (s.code.length,nm) rfl hn hg hA;clear c0 c0a;have c0:=hb1.cell;have f0:=hb1.frozen;have HP:=G hp;clear hn hg hA hb1 hp HC)
  |(go_simp;go_at_call 69;refine HV.out.mono ?_;rintro e w1 ⟨rfl,hv⟩;obtain⟨vc1,h1,hS⟩:=hv.own hO;have HT:=G (oW HS.out hS);have HC:=G h1;clear c0;have c0:=h1.blk.cell;have c0a:=(h1.blk.alloc (.cells #[.int .i64 (s.code.length:Int), .string (an nm)] 155)).cell;clear h1 HV hS hv HS))
 all_goals (go_wp2_with fail;obtain⟨O3,h3,hS3⟩:=HP.out;exact bodyPost_end (results_none rfl _ _ _) rfl ⟨rfl,O3,h3,HT.out.trans hS3⟩)
theorem rX {P:Program} {w:World} (base:Nat) (t u ty e:TypeId) (i:TypeInfo) (ht:P.underlying t=some (.slice e)) (hu:P.underlying u=some .string) (hi:P.info? e=some i) (hz:i.zero=some (.int .u8 0))
  (hsize:i.size=1) (hby:i.bytes=1) (v:Value) (n:Nat) (xs:List Value) (hown:w.ownsRow base e 1 v n xs) (s:ByteArray) (h63:n+s.size<=1000000000) (hbase:base<=w.heap.size):
  ∃v' w',(Builtin.append_ #[t,u] ty #[v, .string s]).run P w= .ok v' w'/\w'.ownsRow base e 1 v' (n+s.size) (xs++Lib.strCells s)/\w.grownBy w' v.ownBlock/\(v'.ownBlock=v.ownBlock\/v'.ownBlock=some w.heap.size):=by
 obtain⟨v',w',h1,h2,h3,h4⟩:=Lib.run_append_own_string (P:=P) w base t u ty e i ht hu hi hz hsize hby v n xs hown s (by simp only[maxLen];omega) (by omega) hbase;refine⟨v',w',h1,h2,h3,?_⟩;rcases hown.2 with⟨rfl,rfl⟩|⟨g,cap,cur,rfl,hbg,hg,hnc,hcm,hcs,htake⟩
 ·obtain⟨v2,w2,k1,k2,_,_⟩:=Lib.run_append_own_string (P:=P) w w.heap.size t u ty e i ht hu hi hz hsize hby (.slice none 0 0) 0 [] (World.ownsRow_nil w _ e 1) s (by simp only[maxLen];omega) (by omega) (ah _);rw[h1]at k1;injection k1 with e1 e2;subst e1 e2;by_cases hs0:s.size=0
  ·exact .inl (by rw[h4.2 ⟨rfl,hs0⟩])
  ·right;have hr:=run_append_nil_string (P:=P) w t u ty e i (.int .u8 0) ht hu hi hz s (by omega) (by omega) (by rw[hby];omega);rw[h1]at hr;injection hr with e1 e2;rw[e1];rfl
 ·by_cases hroom:n+s.size<=cap
  ·have hr:=Lib.run_append_room_string (P:=P) w t u ty e i ht hu hi hsize g n cap cur hg s hroom (by omega);rw[h1]at hr;injection hr with e1 e2;exact .inl (by rw[e1];rfl)
  ·right;have hxl:xs.length=n:=by simpa using hown.1
   have holds: ∀j u,xs[j]? =some u->w.cell? ((⟨g,0,none⟩:Addr).add j)=some u:=hown.cells (g:=g) rfl;have hr:=Lib.run_append_grow_string (P:=P) w t u ty e i (.int .u8 0) ht hu hi hz ⟨g,0,none⟩ n cap xs (by rw[hsize];simpa using hxl) holds s (by omega) (by omega) (by rw[hby];exact growslice_fits (by omega) (by omega));rw[h1]at hr;injection hr with e1 e2;rw[e1];rfl
theorem nI {P:Program} {w:World} {ops:Array Oper} {rest:List Oper} {o:Oper} {a:Act} {Q:Exit->Act->World->Prop} (hgd:o.guard=none) (sl x:Operand) (t u:TypeId)
  (ho:o.op= .call {callee:= .builtin .append,args:= #[sl,x],argTypes:= #[t,u]}) (base:Nat) (e:TypeId) (i:TypeInfo) (ht:P.underlying t=some (.slice e)) (hu:P.underlying u=some .string) (hi:P.info? e=some i) (hz:i.zero=some (.int .u8 0))
  (hsize:i.size=1) (hby:i.bytes=1) (v:Value) (n:Nat) (xs:List Value) (hs:a.eval sl=v) (hown:w.ownsRow base e 1 v n xs) (s:ByteArray) (hx:a.eval x= .string s) (h63:n+s.size<=1000000000) (hbase:base<=w.heap.size)
  (h: ∀v' w',w'.ownsRow base e 1 v' (n+s.size) (xs++Lib.strCells s)->w.grownBy w' v.ownBlock->(v'.ownBlock=v.ownBlock\/v'.ownBlock=some w.heap.size)->wpList P ops Q rest (a.put o.dst v') w'):wpList P ops Q (o::rest) a w:=by
 refine wpList_plain hgd fun K hK=> ?_;obtain⟨v',w',hr,h2,h3,h4⟩:=rX (P:=P) (w:=w) base t u o.type e i ht hu hi hz hsize hby v n xs hown s h63 hbase;unfold Oper.wp execOp;simp only[ho,resolve,invoke,builtin,Sem.run_bind,Sem.run_pure,Result.andThen_ok,cU,bS,db,hs,hx,hr];exact hK _ _ (h v' w' h2 h3 h4)
theorem i6 {w:World} {base n z:Nat} {e:TypeId} {v:Value} {xs:List Value} (h:w.ownsRow base e z v n xs): ∃A c,v= .slice A n c:=by
 rcases h.2 with⟨hv,h0⟩|⟨g,cap,cur,hv,_⟩
 ·exact⟨none,0,by rw[hv,h0]⟩
 ·exact⟨_,_,hv⟩
theorem gV.txt {k:CC} {at_:List (Nm×Int)} {O:Nat->Prop} {w w1:World} {s:CS} {vc vt vl vd vs v':Value} (h:gV k at_ vc vt vl vd vs w s) (hO: ∀b,O b↔some b∈bw k vc vt vl vd vs) (x:List UInt8)
  (hn:w1.ownsRow k.base 5 1 v' (s.tx.length+(an x).size) (gn s.tx++Lib.strCells (an x))) (hg:w.grownBy w1 vt.ownBlock) (hA:v'.ownBlock=vt.ownBlock\/v'.ownBlock=some w.heap.size):
  aP w1 k.c 95 #[k.va,k.fa,vc,vt, .map (some k.bp), .map (some k.bs), .map (some k.ba),vl,vd,vs, .int .i64 s.frame]/\CP k at_ O w {s with tx:=s.tx++x} (w1.setCell ⟨k.c,3,none⟩ v'):=by
 have hb:=h.blk.grown hg (eE h).2.2.1;refine⟨hb,h.tx_cp hO (by simpa using hb.set 3 v') ?_ hA ((iJ hg fun b e=> .inr e).set (fun _=> .inl rfl) _)⟩;have:gn s.tx++Lib.strCells (an x)=gn (s.tx++x):=by simp[gn,Lib.strCells,an,oY]
 rw[this,aU,<-ab]at hn;refine hn.kept (gJ w1 k.c 3 _) ?_;rcases hA with hA|hA
 ·exact .inr fun e=>(eE h).2.2.1 (by rw[<-hA];exact e.symm)
 ·exact .inr fun e=>by
   have h5:=(h.lo k.c (by simp[bw])).2;rw[hA]at e;injection e with e;omega
theorem Gj {k:CC} {at_:List (Nm×Int)} {O:Nat->Prop} {w:World} {s:CS} (m:CX k at_ O w s) (r:Int) (t:List UInt8) (hb:(s.text r t).big<=945000000):
  Calls prog 219 #[.pointer (some ⟨k.c,0,none⟩), .int .i64 r, .string (an t)] w fun e w'=>e= .returned (.tuple #[])/\CP k at_ O w (s.text r t) w':=by
 obtain⟨i0,hi,hz0,hz1,hz2⟩:=info_parts (show(prog.info? 5).map (fun i=>(i.zero,i.size,i.bytes))=some (some (.int .u8 0),1,1)from by kernel_rfl);have hD:au w w.drew:=d9 (aG w);obtain⟨vc,vt,vl,vd,vs,h,hO⟩:=m.ext hD;obtain⟨At,ct,rfl⟩:=h.tx.form;rw[cf]at hb;have hc:=aT (show s.big<=945000000 by omega);have hd:=qQ (show s.big<=945000000 by omega);have ht:=CG (show s.big<=945000000 by omega);have htt:s.tx.length+t.length<=945000000:=by unfold CS.big at hb;omega
 have HV:=G (sP h 1 1 r s.tx.length rfl (by omega));have HS:=G (iK (O:=O) hD);have c0:=h.blk.cell;clear m h hb;go_enter func219,ntmps219;go_wp2_with fail
 go_region_law (first
  |(refine ky Fs rfl _ _ rfl k.base _ s.dats.length (eU s.dats) rfl (HC.out.dats.alloc _) w1.heap.size (lM (s.code.length,[])) rfl (aw w1 _ _) rfl (lL _) (by omega) (by decide) (by rw[World.size_alloc];have:=(eE HC.out).1;omega) ?_;intro A cap w2 hn hg hA;obtain⟨hb1,hp⟩:=HC.out.datm (n:=s.dats.length) (fun b=>f9) (aa w1 _) (s.code.length,[]) rfl hn hg hA;clear c0 c0a;have c0:=hb1.cell;have f0:=hb1.frozen;have HP:=G hp;clear hn hg hA hb1 hp HC)
  |(go_simp;go_at_call 69;refine HV.out.mono ?_;rintro e w1 ⟨rfl,hv⟩;obtain⟨vc1,h1,hS⟩:=hv.own hO;have HT:=G (oW HS.out hS);have HC:=G h1;clear c0;have c0:=h1.blk.cell;have c0a:=(h1.blk.alloc (.cells #[.int .i64 (s.code.length:Int), .string ⟨#[]⟩] 155)).cell;clear h1 HV hS hv HS))
 all_goals
  clear c0 f0;obtain⟨O3,h3,hS3⟩:=HP.out;have T3:=G (HT.out.trans hS3);have hx3:((s.vl 1 r s.tx.length).addD (s.code.length,[])).tx=s.tx:=rfl;generalize hs3:(s.vl 1 r s.tx.length).addD (s.code.length,[])=s3 at*;obtain⟨vc3,vt3,vl3,vd3,vs3,h3,hO3⟩:=h3;obtain⟨A3,c3,rfl⟩:=h3.tx.form;have H3:=G h3;have c0:=h3.blk.cell;clear h3 HP hS3 HT;rw[<-hx3]at htt;clear hx3;generalize World.setCell w2 _ _=w3 at*;go_wp2_with (at_builtin;refine nI rfl _ _ _ _ rfl k.base 5 i0 underlying36 underlying9 hi hz0 hz1 hz2 (.slice A3 s3.tx.length c3) s3.tx.length (gn s3.tx) rfl H3.out.tx (an t) rfl (by rw[aU];exact ax htt (by decide)) (eE H3.out).1 ?_;intro v4 w4 hn hg hA;obtain⟨A4,c4,rfl⟩:=i6 hn;obtain⟨hb1,hp⟩:=H3.out.txt hO3 t hn hg hA;clear c0;have c0:=hb1.cell;have f0:=hb1.frozen;have HP:=G hp;clear hn hg hA hb1 hp H3);obtain⟨O4,h4,hS4⟩:=HP.out;subst hs3;exact bodyPost_end (results_none rfl _ _ _) rfl ⟨rfl,O4,h4,T3.out.trans hS4⟩
end
section
open Go.RowKit
open Go.ChangeMaps Go.MapKept Go.WideMaps
theorem lr: ∀(l:List cQ) (i:Nat) (v:Int),i<l.length->fG (l.modify i (fU · v))=(fG l).set (i*5+4) (.int .i64 v)
 | [],i,v,h=>by simp at h
 |x::l,0,v,h=>by simp[fG,lu,fU]
 |x::l,i+1,v,h=>by
  have:=lr l i v (by simpa using h);simp only[fG,List.modify_succ_cons,br]at this⊢;rw[this,show(i+1)*5+4=(i*5+4)+5 by omega];simp[lu,List.set_append]
theorem eR: ∀(l:List cQ) (i:Nat) (h:i<l.length) (j:Nat),j<5->(fG l)[i*5+j]? =(lu l[i])[j]?
 | [],i,h,j,hj=>by simp at h
 |x::l,0,h,j,hj=>by
  simp only[fG,br,aV,be,aE];rw[aX (by simp[lu];omega)]
 |x::l,i+1,h,j,hj=>by
  have:=eR l i (by simpa using h) j hj;simp only[fG,br,aL]at this⊢;rw[bx (by simp[lu];omega),<-this]
  congr 1
  simp[lu];omega
theorem gV.setv {k:CC} {at_:List (Nm×Int)} {O:Nat->Prop} {w:World} {s:CS} {g cap n:Nat} {vt vl vd vs:Value} (h:gV k at_ (.slice (some ⟨g,0,none⟩) n cap) vt vl vd vs w s) (hO: ∀b,O b↔some b∈bw k (.slice (some ⟨g,0,none⟩) n cap) vt vl vd vs) (hn:s.code.length=n) (i:Nat) (hi:i<n) (v:Int):
  CP k at_ O w {s with code:=s.code.modify i (fU · v)} (w.setCell ⟨g,i*5+4,none⟩ (.int .i64 v)):=by
 subst hn;have hne:=(eE h).2.1;refine h.code_cp hO (c':=s.code.modify i (fU · v)) (v':= .slice (some ⟨g,0,none⟩) s.code.length cap) (h.blk.far (p:=⟨g,i*5+4,none⟩) (fun e=>hne (by rw[e];rfl)) _) ?_ (.inl rfl) ((fA _ _).set (p:=⟨g,i*5+4,none⟩) (fun _=> .inr rfl) _);have:=h.code.stored (i*5+4) (.int .i64 v);rw[dx,lr _ _ _ hi];simpa using this.1
theorem p7 {k:CC} {at_:List (Nm×Int)} {O:Nat->Prop} {w:World} {s:CS} (m:CX k at_ O w s) (i:Nat) (hi:i<s.code.length) (hb:s.big<=950000000):
  Calls prog 178 #[.pointer (some ⟨k.c,0,none⟩), .int .i64 (i:Int)] w fun e w'=>e= .returned (.tuple #[])/\CP k at_ O w (s.land i) w':=by
 have hD:au w w.drew:=d9 (aG w);obtain⟨vc,vt,vl,vd,vs,h,hO⟩:=m.ext hD;have hn:=aT hb;have hcode:=h.code;have hbk:=h.blk.cell;have HS:=G (iK (O:=O) hD);rcases h.code.2 with⟨rfl,h0⟩|⟨g,cap,cur,rfl,_⟩
 ·omega
 have HP:=G (h.setv hO rfl i hi ((s.code.length:Int)-i-1));have c1:w.drew.cell? ⟨g,i*5+4,none⟩=some (.int .i64 s.code[i].v):=by rw[hcode.cellAt _ (by omega),eR _ _ hi 4 (by omega)];rfl
 have f1:=hcode.frozenAt (i*5+4);have hin:(i:Int)<(s.code.length:Int):=by omega
 have hw1:IntKind.i64.wrap ((s.code.length:Int)-i)=(s.code.length:Int)-i:=by simp[IntKind.wrap,IntKind.signed,IntKind.bits];omega
 have hw2:IntKind.i64.wrap ((s.code.length:Int)-i-1)=(s.code.length:Int)-i-1:=by simp[IntKind.wrap,IntKind.signed,IntKind.bits];omega
 clear m h hcode hO hb;go_enter func178,ntmps178;go_region;obtain⟨O3,h3,hS3⟩:=HP.out;exact bodyPost_end (results_none rfl _ _ _) rfl ⟨rfl,O3,h3,HS.out.trans hS3⟩
theorem oG {k:CC} {at_:List (Nm×Int)} {O:Nat->Prop} {w:World} {s:CS} (m:CX k at_ O w s):w.cell? ⟨k.c,9+1,none⟩=some (.int .i64 s.frame):=by
 obtain⟨vc,vt,vl,vd,vs,h,hO⟩:=m;exact(h.blk.cell 10).trans rfl
theorem CT {k:CC} {at_:List (Nm×Int)} {O:Nat->Prop} {w:World} {s:CS} (m:CX k at_ O w s) (hb:s.big<=940000000):
  Calls prog 73 #[.pointer (some ⟨k.c,0,none⟩)] w fun e w'=>e= .returned (.tuple #[])/\CP k at_ O w s.back w':=by
 have m0:=G m;have T0:=G (jk O w);clear m;go_enter func73,ntmps73
 go_upto_region 1 with(go_at_call 70;refine(fp m0.out 14 _ _ _ _ rfl (aT (by(try simp only[bo,a8,bC,bB,cC,cf,b6,bV,dg,cZ,dB,cW,ea]);omega))).mono ?_;rintro e w1 ⟨rfl,O1,hm,hS⟩;have T1:=cF T0 hS;have m1:=G hm;clear m0 T0 hm hS)
 have f:=oG m1.out;go_wp2_with (first|(go_at_call 70;refine(fp m1.out 3 _ _ _ _ rfl (aT (by(try simp only[bo,a8,bC,bB,cC,cf,b6,bV,dg,cZ,dB,cW,ea]);omega))).mono ?_;rintro e w2 ⟨rfl,O2,hm,hS⟩;have T2:=cF T1 hS;have m2:=G hm;clear f;clear m1 T1 hm hS)|(go_at_call 70;refine(fp m2.out 21 _ _ _ _ rfl (aT (by(try simp only[bo,a8,bC,bB,cC,cf,b6,bV,dg,cZ,dB,cW,ea]);omega))).mono ?_;rintro e w3 ⟨rfl,O3,hm,hS⟩;have T3:=cF T2 hS;have m3:=G hm;clear m2 T2 hm hS));exact bodyPost_end (results_none rfl _ _ _) rfl ⟨rfl,_,m3.out,T3.out⟩
theorem vq {k:CC} {at_:List (Nm×Int)} {O:Nat->Prop} {w:World} {s:CS} (m:CX k at_ O w s) {nm:Nm} (hn:nm.length<=maxLen): ∃vs,w.cell? ⟨k.c,8+1,none⟩=some vs/\(Instr.lookup 88 vs (.string (an nm)) true).run prog w= .ok (.tuple #[.int .i64 ((ge s.slots nm).getD 0), .bool (ge s.slots nm).isSome]) w:=by
 obtain⟨vc,vt,vl,vd,vs,h,hO⟩:=m;refine⟨vs,(h.blk.cell 9).trans rfl,?_⟩;rcases h.sl with⟨rfl,h0,_⟩|⟨b,rfl,h1,_⟩
 ·rw[(sm ud w hn).2,h0];rfl
 ·rw[(h1.look ud hn).2];unfold fF
  cases ge s.slots nm<;>rfl
theorem E0 {k:CC} {at_:List (Nm×Int)} {O:Nat->Prop} {w:World} {s:CS} (m:CX k at_ O w s) (r:Int) (nm:Nm) (hn:nm.length<=maxLen) (hb:s.big<=940000000):
  Calls prog 180 #[.pointer (some ⟨k.c,0,none⟩), .int .i64 r, .string (an nm)] w fun e w'=>e= .returned (.tuple #[])/\CP k at_ O w (s.ld 14 r nm) w':=by
 obtain⟨vs,f0,f1⟩:=vq m hn;have m0:=G m;have T0:=G (jk O w);have HS:=G (show s.ld 14 r nm=match ge s.slots nm with|some at_=>s.op 14 r 15 at_|none=>(s.dat 0 nm).op 14 r 0 0 from rfl);generalize s.ld 14 r nm=s' at*;clear m
 cases hl:ge s.slots nm with
 |some a=>
  rw[hl]at f1 HS;simp only[bR,cX]at f1 HS;clear hl;go_enter func180,ntmps180;go_wp2_with (go_at_call 70;refine(fp m0.out 14 _ _ _ _ rfl (aT (by(try simp only[bo,a8,bC,bB,cC,cf,b6,bV,dg,cZ,dB,cW,ea]);omega))).mono ?_;rintro e w1 ⟨rfl,O1,hm,hS⟩;have T1:=cF T0 hS;have m1:=G hm;clear m0 T0 hm hS);exact bodyPost_ret (results_none rfl _ _ _) rfl ⟨rfl,_,HS.out▸m1.out,T1.out⟩
 |none=>
  rw[hl]at f1 HS;simp only[ew,dr]at f1 HS;clear hl;go_enter func180,ntmps180;go_wp2_with (first|(go_at_call 185;refine(B6 m0.out 0 nm (by(try simp only[bo,a8,bC,bB,cC,cf,b6,bV,dg,cZ,dB,cW,ea]);omega)).mono ?_;rintro e w1 ⟨rfl,O1,hm,hS⟩;have T1:=cF T0 hS;have m1:=G hm;clear m0 T0 hm hS)|(go_at_call 70;refine(fp m1.out 14 _ _ _ _ rfl (aT (by(try simp only[bo,a8,bC,bB,cC,cf,b6,bV,dg,cZ,dB,cW,ea]);omega))).mono ?_;rintro e w2 ⟨rfl,O2,hm,hS⟩;have T2:=cF T1 hS;have m2:=G hm;clear m1 T1 hm hS));exact bodyPost_end (results_none rfl _ _ _) rfl ⟨rfl,_,HS.out▸m2.out,T2.out⟩
theorem zK {k:CC} {at_:List (Nm×Int)} {O:Nat->Prop} {w:World} {s:CS} (m:CX k at_ O w s) (r:Int) (nm:Nm) (hn:nm.length<=maxLen) (hb:s.big<=940000000):
  Calls prog 131 #[.pointer (some ⟨k.c,0,none⟩), .int .i64 r, .string (an nm)] w fun e w'=>e= .returned (.tuple #[])/\CP k at_ O w (s.ld 15 r nm) w':=by
 obtain⟨vs,f0,f1⟩:=vq m hn;have m0:=G m;have T0:=G (jk O w);have HS:=G (show s.ld 15 r nm=match ge s.slots nm with|some at_=>s.op 15 r 15 at_|none=>(s.dat 0 nm).op 15 r 0 0 from rfl);generalize s.ld 15 r nm=s' at*;clear m
 cases hl:ge s.slots nm with
 |some a=>
  rw[hl]at f1 HS;simp only[bR,cX]at f1 HS;clear hl;go_enter func131,ntmps131;go_wp2_with (go_at_call 70;refine(fp m0.out 15 _ _ _ _ rfl (aT (by(try simp only[bo,a8,bC,bB,cC,cf,b6,bV,dg,cZ,dB,cW,ea]);omega))).mono ?_;rintro e w1 ⟨rfl,O1,hm,hS⟩;have T1:=cF T0 hS;have m1:=G hm;clear m0 T0 hm hS);exact bodyPost_ret (results_none rfl _ _ _) rfl ⟨rfl,_,HS.out▸m1.out,T1.out⟩
 |none=>
  rw[hl]at f1 HS;simp only[ew,dr]at f1 HS;clear hl;go_enter func131,ntmps131;go_wp2_with (first|(go_at_call 185;refine(B6 m0.out 0 nm (by(try simp only[bo,a8,bC,bB,cC,cf,b6,bV,dg,cZ,dB,cW,ea]);omega)).mono ?_;rintro e w1 ⟨rfl,O1,hm,hS⟩;have T1:=cF T0 hS;have m1:=G hm;clear m0 T0 hm hS)|(go_at_call 70;refine(fp m1.out 15 _ _ _ _ rfl (aT (by(try simp only[bo,a8,bC,bB,cC,cf,b6,bV,dg,cZ,dB,cW,ea]);omega))).mono ?_;rintro e w2 ⟨rfl,O2,hm,hS⟩;have T2:=cF T1 hS;have m2:=G hm;clear m1 T1 hm hS));exact bodyPost_end (results_none rfl _ _ _) rfl ⟨rfl,_,HS.out▸m2.out,T2.out⟩
theorem yq (l:List (Nm×Int)) (nm:Nm) (v:Int) (x:Nm):ge (gx l nm v) x=if x=nm then some v else ge l x:=by
 unfold gx ge;split
 ·rename_i h
  induction l with
  |nil=>simp at h
  |cons y l ih=>
   simp only[bS,gN];by_cases hy:y.1=nm
   ·simp only[hy,if_true,beq_self_eq_true];by_cases hx:x=nm
    ·subst hx;simp
    ·have:(nm==x)=false:=by simpa using fun e=>hx e.symm
     rw[this,if_neg hx];simp only;by_cases h2:l.any (·.1==nm)=true
     ·have:=ih h2;rwa [if_neg hx]at this
     ·have h3: ∀z∈l,z.1≠nm:=fun z hz e=>h2 (List.any_eq_true.2 ⟨z,hz,by simp[e]⟩);have:l.map (fun x=>if x.1=nm then(nm,v)else x)=l:=by
       conv=>rhs;rw[<-List.map_id l]
       exact List.map_congr_left fun z hz=>by rw[if_neg (h3 z hz)];rfl
      rw[this]
   ·rw[if_neg hy];have h2:l.any (·.1==nm)=true:=by
     simp only[gz,dh]at h;rcases h with h|h
     ·exact absurd (by simpa using h) hy
     ·exact h
    cases hyx:(y.1==x)with
    |true=>
     have:x≠nm:=fun e=>hy (by have:=eq_of_beq hyx;rw[this,e]);rw[if_neg this]
    |false=>exact ih h2
 ·simp only[gN];by_cases hx:x=nm
  ·subst hx;simp
  ·have:(nm==x)=false:=by simpa using fun e=>hx e.symm
   rw[this,if_neg hx]
theorem tR (l:List (Nm×Int)) (nm:Nm) (v:Int):(gx l nm v).length=if l.any (·.1==nm)=true then l.length else l.length+1:=by unfold gx;split<;>simp
theorem Bx (l:List (Nm×Int)) (nm:Nm) (v:Int) (x:Nm):(fF l).upd nm (.int .i64 v) x=fF (gx l nm v) x:=by
 unfold KF.upd fF;rw[yq];split<;>rfl
theorem yp (l:List (Nm×Int)) (nm:Nm):(fF l nm).isSome=l.any (·.1==nm):=by
 unfold fF ge;rw[Option.isSome_map,Option.isSome_map,eN,List.find?_isSome,List.any_eq_true]
theorem me.store {P:Program} {t k e:TypeId} {z:Value} {w:World} {b n:Nat} {L:KF} (hT:mO P t k e z) (h:me w b L n) {s:List UInt8} (hs:s.length<=maxLen) (v:Value):
  ∃w',(Instr.mapUpdate t (.map (some b)) (.string (an s)) v).run P w= .ok () w'/\me w' b (L.upd s v) (if(L s).isSome=true then n else n+1)/\w.grownBy w' (some b):=by
 obtain⟨hM,es,c,hb,hn⟩:=h;obtain⟨w',h1,h2,h3⟩:=hM.store hT hs v;refine⟨w',h1,⟨h2,?_⟩,h3⟩;have hM':=hM;obtain⟨es0,c0,hb0,hk,hL,hP⟩:=hM;rw[hb]at hb0;injection hb0 with hb0;injection hb0 with e1 e2;subst e1 e2;have K:=Go.Maps.string_keyed hT.key;have hkey:=lq hT hs;rcases K.find w hkey es.toList (oV hT hk)with⟨q1,q2⟩|⟨j,e0,q1,q2,q3⟩
 ·have h0:L s=none:=by
   cases hv:L s with
   |none=>rfl
   |some v=>obtain⟨x,hx,he⟩:=hL s v hv;exact absurd he (q2 x hx)
  have hr:(Instr.mapUpdate t (.map (some b)) (.string (an s)) v).run P w= .ok () (setBlock w b (.map (es.push ⟨.string (an s),v,c⟩) (c+1))):=by
   simp[Instr.mapUpdate,run_underlying hT.map,MapKept.run_getObj_map hb,K.check w false hkey,q1,MapKept.run_setObj_map _ hb,Result.andThen,setBlock]
  rw[h1]at hr;injection hr with _ hr;subst hr;rw[h0];exact⟨_,_,heap_setBlock_same hb _,by simp[hn]⟩
 ·obtain⟨s',_,h5,h6⟩:=hk e0 (ce q2);rw[q3]at h5;have h7:=nz h5;subst h7;have hj:es[j]? =some e0:=by simpa using q2
  have hr:(Instr.mapUpdate t (.map (some b)) (.string (an s)) v).run P w= .ok () (setBlock w b (.map (es.modify j (fun e'=>{e' with key:= .string (an s),val:=v})) c)):=by
   simp[Instr.mapUpdate,run_underlying hT.map,MapKept.run_getObj_map hb,K.check w false hkey,q1,hj,q3,K.stays w hkey,MapKept.run_setObj_map _ hb,Result.andThen,setBlock]
  rw[h1]at hr;injection hr with _ hr;subst hr;rw[h6];exact⟨_,_,heap_setBlock_same hb _,by simp[hn]⟩
theorem pd {P:Program} {t k e:TypeId} {z:Value} {w:World} {b n:Nat} {L:KF} {ops:Array Oper} {rest:List Oper} {o:Oper} {a:Act} {Q:Exit->Act->World->Prop} (hT:mO P t k e z) (hg:o.guard=none) (m x v:Operand) (hop:o.op=Op.mapUpdate t m x v)
  (h:me w b L n) (hm:a.eval m= .map (some b)) {s:List UInt8} (hs:s.length<=maxLen) (hx:a.eval x= .string (an s)) (u:Value) (hv:a.eval v=u)
  (hK: ∀w',me w' b (L.upd s u) (if(L s).isSome=true then n else n+1)->w.grownBy w' (some b)->wpList P ops Q rest (a.put o.dst undef) w'):wpList P ops Q (o::rest) a w:=by
 refine wpList_plain hg fun K' hK'=> ?_;obtain⟨w',hrun,r1,r2⟩:=h.store hT hs u;unfold Oper.wp;simp[execOp,hop,hm,hx,hv,hrun,Result.andThen];exact hK' _ _ (hK w' r1 r2)
theorem gV.slot_cp {k:CC} {at_:List (Nm×Int)} {O:Nat->Prop} {w w':World} {s:CS} {b:Nat} {vc vt vl vd:Value} (h:gV k at_ vc vt vl vd (.map (some b)) w s) (hO: ∀j,O j↔some j∈bw k vc vt vl vd (.map (some b))) (l:List (Nm×Int)) (hl:me w' b (fF l) l.length) (hg:w.grownBy w' (some b)):CP k at_ O w {s with slots:=l} w':=by
 have K: ∀(j c:Nat),j≠4->(bw k vc vt vl vd (.map (some b)))[j]? =some (some c)->w'.heap[c]? =w.heap[c]? :=fun j c hj hc=>by
  refine hg.block c (h.lo c (ce hc)).2 fun e=> ?_;exact(ik h.nd hj hc (show(bw k vc vt vl vd (.map (some b)))[4]? =some (some b)from rfl)).resolve_left (by simp) e
 refine⟨O,⟨vc,vt,vl,vd, .map (some b),⟨(K 0 _ (by decide) rfl).trans h.blk,dR h.code fun c e=>K 5 c (by decide) (congrArg some e),dR h.tx fun c e=>K 6 c (by decide) (congrArg some e),dR h.calls fun c e=>K 7 c (by decide) (congrArg some e),dR h.dats fun c e=>K 8 c (by decide) (congrArg some e),h.pl.obj (K 1 _ (by decide) rfl),h.sz.obj (K 2 _ (by decide) rfl),h.at_.obj (K 3 _ (by decide) rfl), .inr ⟨b,rfl,hl⟩,h.nd,fun c hc=>⟨(h.lo c hc).1,aA (h.lo c hc).2 hg.size⟩⟩,hO⟩, .of_grown hg fun c e=> ?_,fun c e=> .inl e⟩;injection e with e;subst e;exact(hO b).2 (by simp[bw,Ax])
theorem yD {P:Program} {t k e ty:TypeId} {w:World} {b n:Nat} {es:Array MapEntry} {c:Nat} (ht:P.underlying t=some (.map k e)) (hb:w.heap[b]? =some (.map es c)) (hn:es.size=n):(Builtin.len_ #[t] ty #[.map (some b)]).run P w= .ok (.int .i64 (n:Int)) w:=by
 simp[Builtin.len_,run_underlying ht,MapKept.run_getObj_map hb,Result.andThen,goInt,hn]
theorem CO {k:CC} {at_:List (Nm×Int)} {O:Nat->Prop} {w:World} {s:CS} (m:CX k at_ O w s) (nm:Nm) (hn:nm.length<=maxLen) (hf:s.frame≠0) (hl:s.slots.length<=1000000):
  Calls prog 71 #[.pointer (some ⟨k.c,0,none⟩), .string (an nm)] w fun e w'=>e= .returned (.tuple #[])/\CP k at_ O w (s.decl nm) w':=by
 obtain⟨vc,vt,vl,vd,vs,h,hO⟩:=m;rcases h.sl with⟨_,_,h0⟩|⟨b,rfl,hM⟩
 ·exact absurd h0 hf
 have H:=G h;have HM:=G hM;obtain⟨_,es,clk,hb,hes⟩:=hM;have HB:=G hb;have HE:=G hes;have hw1:IntKind.i64.wrap (4*(s.slots.length:Int))=4*(s.slots.length:Int):=by simp[IntKind.wrap,IntKind.signed,IntKind.bits];omega
 have hw2:IntKind.i64.wrap (32+4*(s.slots.length:Int))=32+4*(s.slots.length:Int):=by simp[IntKind.wrap,IntKind.signed,IntKind.bits];omega
 clear h hb hes;go_enter func71,ntmps71;refine ay 12 1 [] mixed (by kernel_rfl) trivial ?_;repeat (refine sx ?_ (fun w1 hU=> ?_) ?_;rotate_left;(focus have f0:=(H.out.blk.ext hU.un).cell;have f3:=fun ty=>yD (ty:=ty) ud.map ((hU.un.obj HM.out.1.lt).trans HB.out) HE.out;clear hU;go_simp<;>with_reducible rfl);simp only[bH,bG,bF,bE,bD])
 intro w7 hw7 _;simp only[ac,aq];have hD:=hw7.un;have HW:=G (H.out.keep hD.size fun c hc=>hD.obj (H.out.lo c hc).2);have HM7:=G (HM.out.obj (hD.obj HM.out.1.lt));have HS:=G (iK (O:=O) hD);clear hw7 H HM HB HE hD hw1 hw2;go_wp2_with (at_mapUpdate;refine pd ud rfl _ _ _ rfl (s:=nm) HM7.out rfl hn rfl _ rfl ?_;intro w8 hm8 hg8;have HP:=G (HW.out.slot_cp hO (gx s.slots nm (32+4*(s.slots.length:Int))) ⟨hm8.1.congr (Bx _ _ _),by obtain⟨_,es,c,q1,q2⟩:=hm8;refine⟨es,c,q1,?_⟩;rw[q2,tR,yp]⟩ hg8);clear hm8 hg8 HM7 HW);obtain⟨O3,h3,hS3⟩:=HP.out;exact bodyPost_end (results_none rfl _ _ _) rfl ⟨rfl,O3,h3,HS.out.trans hS3⟩
theorem qX {k:CC} {at_:List (Nm×Int)} {O:Nat->Prop} {w:World} {s:CS} (m:CX k at_ O w s) {nm:Nm} (hn:nm.length<=maxLen):w.cell? ⟨k.c,5,none⟩=some (.map (some k.bs))/\(Instr.lookup 88 (.map (some k.bs)) (.string (an nm)) false).run prog w= .ok (.int .i64 (aN k.sz nm)) w:=by
 obtain⟨vc,vt,vl,vd,vs,h,hO⟩:=m;refine⟨(h.blk.cell 5).trans rfl,?_⟩;rw[(h.sz.look ud hn).1];unfold fF aN
 cases ge k.sz nm<;>rfl
theorem CN {k:CC} {at_:List (Nm×Int)} {O:Nat->Prop} {w:World} {s:CS} (m:CX k at_ O w s) (r:Int) (nm:Nm) (hn:nm.length<=maxLen) (hs:0<=aN k.sz nm/\aN k.sz nm<=1000000) (hb:s.big<=930000000):
  Calls prog 133 #[.pointer (some ⟨k.c,0,none⟩), .int .i64 r, .string (an nm)] w fun e w'=>e= .returned (.tuple #[])/\CP k at_ O w (s.elem (aN k.sz) r nm) w':=by
 obtain⟨f0,f1⟩:=qX m hn;have m0:=G m;have T0:=G (jk O w);have HE:=G (show s.elem (aN k.sz) r nm=((s.chk r (aN k.sz nm-1)).dat 0 nm).op 4 0 0 r from rfl);have HC:=G (rk s r (aN k.sz nm-1));generalize s.elem (aN k.sz) r nm=s' at*;generalize aN k.sz nm=z at*;obtain⟨hs1,hs2⟩:=hs;have hw:IntKind.i64.wrap (z-1)=z-1:=by simp[IntKind.wrap,IntKind.signed,IntKind.bits];omega
 clear m;go_enter func133,ntmps133;go_wp2_with (first|(go_at_call 186;refine(E4 m0.out r (z-1) (by omega) (by omega)).mono ?_;rintro e w1 ⟨rfl,O1,hm,hS⟩;have T1:=cF T0 hS;have m1:=G hm;clear f0 f1;clear m0 T0 hm hS)|(go_at_call 185;refine(B6 m1.out 0 nm (by have:=HC.out;omega)).mono ?_;rintro e w2 ⟨rfl,O2,hm,hS⟩;have T2:=cF T1 hS;have m2:=G hm;clear m1 T1 hm hS)|(go_at_call 70;refine(fp m2.out 4 _ _ _ _ rfl (aT (by have:=HC.out;simp only[cC];omega))).mono ?_;rintro e w3 ⟨rfl,O3,hm,hS⟩;have T3:=cF T2 hS;have m3:=G hm;clear m2 T2 hm hS));exact bodyPost_end (results_none rfl _ _ _) rfl ⟨rfl,_,HE.out▸m3.out,T3.out⟩
theorem Gm (op:Nm) (w:World):Calls prog 220 #[.string (an op)] w fun e w'=>e= .returned (.tuple #[.int .i64 ((qE op).1:Int), .bool (qE op).2.1, .bool (qE op).2.2])/\w=w':=by
 by_cases h0:op=[43];(subst h0;go_enter func220,ntmps220;go_wp2_with fail;go_ret3;exact⟨rfl,rfl⟩)
 by_cases h1:op=[45];(subst h1;go_enter func220,ntmps220;go_wp2_with fail;go_ret3;exact⟨rfl,rfl⟩)
 by_cases h2:op=[42];(subst h2;go_enter func220,ntmps220;go_wp2_with fail;go_ret3;exact⟨rfl,rfl⟩)
 by_cases h3:op=[47];(subst h3;go_enter func220,ntmps220;go_wp2_with fail;go_ret3;exact⟨rfl,rfl⟩)
 by_cases h4:op=[37];(subst h4;go_enter func220,ntmps220;go_wp2_with fail;go_ret3;exact⟨rfl,rfl⟩)
 by_cases h5:op=[61,61];(subst h5;go_enter func220,ntmps220;go_wp2_with fail;go_ret3;exact⟨rfl,rfl⟩)
 by_cases h6:op=[33,61];(subst h6;go_enter func220,ntmps220;go_wp2_with fail;go_ret3;exact⟨rfl,rfl⟩)
 by_cases h7:op=[60];(subst h7;go_enter func220,ntmps220;go_wp2_with fail;go_ret3;exact⟨rfl,rfl⟩)
 by_cases h8:op=[60,61];(subst h8;go_enter func220,ntmps220;go_wp2_with fail;go_ret3;exact⟨rfl,rfl⟩)
 by_cases h9:op=[62];(subst h9;go_enter func220,ntmps220;go_wp2_with fail;go_ret3;exact⟨rfl,rfl⟩)
 have q0:([43]==op)=false:=beq_eq_false_iff_ne.2 (ft h0);have e0:(op==[43])=false:=beq_eq_false_iff_ne.2 h0;have q1:([45]==op)=false:=beq_eq_false_iff_ne.2 (ft h1);have e1:(op==[45])=false:=beq_eq_false_iff_ne.2 h1;have q2:([42]==op)=false:=beq_eq_false_iff_ne.2 (ft h2);have e2:(op==[42])=false:=beq_eq_false_iff_ne.2 h2;have q3:([47]==op)=false:=beq_eq_false_iff_ne.2 (ft h3);have e3:(op==[47])=false:=beq_eq_false_iff_ne.2 h3;have q4:([37]==op)=false:=beq_eq_false_iff_ne.2 (ft h4);have e4:(op==[37])=false:=beq_eq_false_iff_ne.2 h4;have q5:([61,61]==op)=false:=beq_eq_false_iff_ne.2 (ft h5);have e5:(op==[61,61])=false:=beq_eq_false_iff_ne.2 h5;have q6:([33,61]==op)=false:=beq_eq_false_iff_ne.2 (ft h6);have e6:(op==[33,61])=false:=beq_eq_false_iff_ne.2 h6;have q7:([60]==op)=false:=beq_eq_false_iff_ne.2 (ft h7);have e7:(op==[60])=false:=beq_eq_false_iff_ne.2 h7;have q8:([60,61]==op)=false:=beq_eq_false_iff_ne.2 (ft h8);have e8:(op==[60,61])=false:=beq_eq_false_iff_ne.2 h8;have q9:([62]==op)=false:=beq_eq_false_iff_ne.2 (ft h9);have e9:(op==[62])=false:=beq_eq_false_iff_ne.2 h9;have HO:=G (show qE op=(12,false,true) by unfold qE GF;simp only[List.find?,q0,q1,q2,q3,q4,q5,q6,q7,q8,q9];rfl);clear q0 q1 q2 q3 q4 q5 q6 q7 q8 q9;clear h0 h1 h2 h3 h4 h5 h6 h7 h8 h9;go_enter func220,ntmps220;go_wp2_with fail
 go_ret3
 exact⟨by rw[HO.out];rfl,rfl⟩
end
end Go.Proofs.YtoedmpgicdekmaaGreatDoor
