/-
  Parts of the proof: TyRe TyPu.
-/
import Derived.Test.YtddomeddabfinaaGreatDoorTz00
import Derived.Deep.RegionWith
import Derived.Test.YtddomeddabfinaaGreatDoorTz29
set_option maxRecDepth 100000
set_option maxHeartbeats 8000000
set_option linter.unusedVariables false
set_option linter.unusedSimpArgs false
set_option linter.unusedSectionVars false
namespace Go.Proofs.YtddomeddabfinaaGreatDoor
open Go.Proofs.Tryz
section
open Go.RowKit
section
variable {P:Program} {ops:Array Oper} {Q:Exit->Act->World->Prop}
theorem j4 {id:Nat} {a:Act} {w:World} (hm:P.follows .mixedOrders=true) (h:kQ (wpOp P ops Q) (Q .normal) ops ops.size (Array.replicate ops.size false) a w.drew):(Code.region id ops true).wp P Q a w:=
 wp_region_any hm (jA _ _ _ _ h)
end
section
variable {X:MX} {C:Cx} {σ:Ms} {l:Lo} {fb lb:Nat} {w W:World} {cs:Array Value} {ve vb vl:Value} {ex:List Ex} {bd el:List St}
theorem TQ.rt (h:TQ X C σ l none fb lb w cs ve vb vl ex bd el W) (v:Int):TQ X C σ l (some v) fb lb w cs ve vb vl ex bd el ((W.setCell ⟨fb,2,none⟩ (.int .i32 v)).setCell ⟨fb,1,none⟩ (.bool true)):=by
 have hM:Mv (fun k=>k=fb) W ((W.setCell ⟨fb,2,none⟩ (.int .i32 v)).setCell ⟨fb,1,none⟩ (.bool true)):=((iK (fun k=>k=fb) _).set (p:=⟨fb,2,none⟩) (fun _=>rfl) _).set (p:=⟨fb,1,none⟩) (fun _=>rfl) _;refine h.mt (hM.mono fun k _ e=> .inr (.inl e)) (h.ma.mv hM fun k hk e=>by have:=h.fi.f;omega) ⟨?_,hM.map h.fi.fr.m h.fi.fr.ne,h.fi.fr.rng⟩;simpa[gG]using(h.fi.fr.blk.set 2 (.int .i32 v)).set 1 (.bool true)
end
theorem rj (X:MX) (C:Cx) (n:Nat) (nm:List UInt8) (ex:List Ex) (bd el:List St) (hEx: ∀y∈ex,m7 X C n y) (oc:Oc) (σ:Ms) (l:Lo) (fb lb:Nat) (w:World) (A1 A2 A3:Option Addr) (c1 c2 c3:Nat) (hA:MA X C σ w) (hF:FI X fb lb l none w) (hl:σ.left≠0) (hn:2*σ.left<=n+1)
  (hRe:cE w X.P (.slice A1 ex.length c1) ex) (hRb:cR w X.P (.slice A2 bd.length c2) bd) (hRl:cR w X.P (.slice A3 el.length c3) el) (hr:val C n σ.step l ex= .error oc):
  Calls prog 130 #[X.p, .pointer (some ⟨fb,0,none⟩), .agg #[.int .i64 6, .string (ai nm), .slice A1 ex.length c1, .slice A2 bd.length c2, .slice A3 el.length c3]] w (yP X C fb lb w (st C (n+1) σ l (.mk 6 nm ex bd el))):=by
 have hn1:2*σ.step.left<=n:=by show 2*(σ.left-1)<=n;omega
 have HQ0:=G (jo hA hF hRe hRb hRl #[.int .i64 6, .string (ai nm), .slice A1 ex.length c1, .slice A2 bd.length c2, .slice A3 el.length c3]);have HS:=G (eR HQ0.out.ma hl);have HVL:=G (fun W (h:y8 X C σ.step l fb lb w.heap.size (w.heap.size+1) (w.heap.size+1+1) #[.int .i64 6, .string (ai nm), .slice A1 ex.length c1, .slice A2 bd.length c2, .slice A3 el.length c3] (.slice A1 ex.length c1) ex W)=>gy X C n 6 nm ex hEx σ.step l fb lb w.heap.size (w.heap.size+1) (w.heap.size+1+1) A1 ex.length c1 (.slice A2 bd.length c2) (.slice A3 el.length c3) W h hn1);have hmf: ∀(fn:Fn) (first cap:Array Value) (w:World),(Instr.makeFunc fn first cap).run prog w= .ok (.func fn first cap) w:=fun _ _ _ _=>rfl;have hE:=wU (C:=C) (n:=n) (l:=l) (nm:=nm) (e:=ex) (b:=bd) (c:=el) hl;have f0:=HQ0.out.b0.cell;have hrg:j0 σ.step:=fun x=>hA.rng x;have hlo:=hF.fr.rng;clear hA hF hRe hRb hRl;simp only[MX.p]at*;rw[hr,ed]at hE;have HE:=G hE;clear hE;go_enter func130,ntmps130;go_wp2_with (go_at_call 162;refine HS.out.mono ?_;rintro e w1 ⟨rfl,hM,hA1⟩;have HQ1:=G (HQ0.out.ms hM hA1);clear f0;have f0:=HQ1.out.b0.cell;have f1:=HQ1.out.b1.cell;have f2:=HQ1.out.b2.cell;have fk:=HQ1.out.fi.fr.blk.cell;clear hM hA1 HS HQ0);have HQD:=G (HQ1.out.ext (jh (aR _)));have hve:=HVL.out _ HQD.out.vq;rw[hr]at hve;have HVE:=G hve;clear hve f0 f1 f2 fk HVL;have f0:=HQD.out.b0.cell;have f1:=HQD.out.b1.cell;have f2:=HQD.out.b2.cell;have fk:=HQD.out.fi.fr.blk.cell;refine j4 mixed ?_;refine bg [0,1,2] (by kernel_rfl) (by simp) (fun i hi=> ?_);have hi:i=0\/i=1\/i=2:=by simpa using hi
 rcases hi with rfl|rfl|rfl
 ·refine aS rfl (by rfl) ?_;go_simp;try simp only[aY,aX,aW,aV,aU]
  refine bg [1,2] (by kernel_rfl) (by simp) (fun i hi=> ?_);have hi:i=1\/i=2:=by simpa using hi
  rcases hi with rfl|rfl
  ·refine aS rfl (by rfl) ?_;go_simp;try simp only[aY,aX,aW,aV,aU]
   refine bg [2] (by kernel_rfl) (by simp) (fun i hi=> ?_);obtain rfl:i=2:=by simpa using hi
   refine aS rfl (by rfl) ?_;go_simp;try simp only[aY,aX,aW,aV,aU]
   refine bg [3] (by kernel_rfl) (by simp) (fun i hi=> ?_);obtain rfl:i=3:=by simpa using hi
   refine aS rfl (by rfl) ?_;go_simp;refine HVE.out.mono ?_;intro e w2 h;obtain⟨hM,rfl,hH⟩:=h.err_;exact⟨rfl,cT (HQD.out.mv.trans (hM.mono fun k _ h=> .inl h)) HE.out rfl hH⟩
  ·refine aS rfl (by rfl) ?_;go_simp;try simp only[aY,aX,aW,aV,aU]
   refine bg [1,3] (by kernel_rfl) (by simp) (fun i hi=> ?_);have hi:i=1\/i=3:=by simpa using hi
   rcases hi with rfl|rfl
   ·refine aS rfl (by rfl) ?_;go_simp;try simp only[aY,aX,aW,aV,aU]
    refine bg [3] (by kernel_rfl) (by simp) (fun i hi=> ?_);obtain rfl:i=3:=by simpa using hi
    refine aS rfl (by rfl) ?_;go_simp;refine HVE.out.mono ?_;intro e w2 h;obtain⟨hM,rfl,hH⟩:=h.err_;exact⟨rfl,cT (HQD.out.mv.trans (hM.mono fun k _ h=> .inl h)) HE.out rfl hH⟩
   ·refine aS rfl (by rfl) ?_;go_simp;refine HVE.out.mono ?_;intro e w2 h;obtain⟨hM,rfl,hH⟩:=h.err_;exact⟨rfl,cT (HQD.out.mv.trans (hM.mono fun k _ h=> .inl h)) HE.out rfl hH⟩
 ·refine aS rfl (by rfl) ?_;go_simp;try simp only[aY,aX,aW,aV,aU]
  refine bg [0,2] (by kernel_rfl) (by simp) (fun i hi=> ?_);have hi:i=0\/i=2:=by simpa using hi
  rcases hi with rfl|rfl
  ·refine aS rfl (by rfl) ?_;go_simp;try simp only[aY,aX,aW,aV,aU]
   refine bg [2] (by kernel_rfl) (by simp) (fun i hi=> ?_);obtain rfl:i=2:=by simpa using hi
   refine aS rfl (by rfl) ?_;go_simp;try simp only[aY,aX,aW,aV,aU]
   refine bg [3] (by kernel_rfl) (by simp) (fun i hi=> ?_);obtain rfl:i=3:=by simpa using hi
   refine aS rfl (by rfl) ?_;go_simp;refine HVE.out.mono ?_;intro e w2 h;obtain⟨hM,rfl,hH⟩:=h.err_;exact⟨rfl,cT (HQD.out.mv.trans (hM.mono fun k _ h=> .inl h)) HE.out rfl hH⟩
  ·refine aS rfl (by rfl) ?_;go_simp;try simp only[aY,aX,aW,aV,aU]
   refine bg [0,3] (by kernel_rfl) (by simp) (fun i hi=> ?_);have hi:i=0\/i=3:=by simpa using hi
   rcases hi with rfl|rfl
   ·refine aS rfl (by rfl) ?_;go_simp;try simp only[aY,aX,aW,aV,aU]
    refine bg [3] (by kernel_rfl) (by simp) (fun i hi=> ?_);obtain rfl:i=3:=by simpa using hi
    refine aS rfl (by rfl) ?_;go_simp;refine HVE.out.mono ?_;intro e w2 h;obtain⟨hM,rfl,hH⟩:=h.err_;exact⟨rfl,cT (HQD.out.mv.trans (hM.mono fun k _ h=> .inl h)) HE.out rfl hH⟩
   ·refine aS rfl (by rfl) ?_;go_simp;refine HVE.out.mono ?_;intro e w2 h;obtain⟨hM,rfl,hH⟩:=h.err_;exact⟨rfl,cT (HQD.out.mv.trans (hM.mono fun k _ h=> .inl h)) HE.out rfl hH⟩
 ·refine aS rfl (by rfl) ?_;go_simp;try simp only[aY,aX,aW,aV,aU]
  refine bg [0,1,3] (by kernel_rfl) (by simp) (fun i hi=> ?_);have hi:i=0\/i=1\/i=3:=by simpa using hi
  rcases hi with rfl|rfl|rfl
  ·refine aS rfl (by rfl) ?_;go_simp;try simp only[aY,aX,aW,aV,aU]
   refine bg [1,3] (by kernel_rfl) (by simp) (fun i hi=> ?_);have hi:i=1\/i=3:=by simpa using hi
   rcases hi with rfl|rfl
   ·refine aS rfl (by rfl) ?_;go_simp;try simp only[aY,aX,aW,aV,aU]
    refine bg [3] (by kernel_rfl) (by simp) (fun i hi=> ?_);obtain rfl:i=3:=by simpa using hi
    refine aS rfl (by rfl) ?_;go_simp;refine HVE.out.mono ?_;intro e w2 h;obtain⟨hM,rfl,hH⟩:=h.err_;exact⟨rfl,cT (HQD.out.mv.trans (hM.mono fun k _ h=> .inl h)) HE.out rfl hH⟩
   ·refine aS rfl (by rfl) ?_;go_simp;refine HVE.out.mono ?_;intro e w2 h;obtain⟨hM,rfl,hH⟩:=h.err_;exact⟨rfl,cT (HQD.out.mv.trans (hM.mono fun k _ h=> .inl h)) HE.out rfl hH⟩
  ·refine aS rfl (by rfl) ?_;go_simp;try simp only[aY,aX,aW,aV,aU]
   refine bg [0,3] (by kernel_rfl) (by simp) (fun i hi=> ?_);have hi:i=0\/i=3:=by simpa using hi
   rcases hi with rfl|rfl
   ·refine aS rfl (by rfl) ?_;go_simp;try simp only[aY,aX,aW,aV,aU]
    refine bg [3] (by kernel_rfl) (by simp) (fun i hi=> ?_);obtain rfl:i=3:=by simpa using hi
    refine aS rfl (by rfl) ?_;go_simp;refine HVE.out.mono ?_;intro e w2 h;obtain⟨hM,rfl,hH⟩:=h.err_;exact⟨rfl,cT (HQD.out.mv.trans (hM.mono fun k _ h=> .inl h)) HE.out rfl hH⟩
   ·refine aS rfl (by rfl) ?_;go_simp;refine HVE.out.mono ?_;intro e w2 h;obtain⟨hM,rfl,hH⟩:=h.err_;exact⟨rfl,cT (HQD.out.mv.trans (hM.mono fun k _ h=> .inl h)) HE.out rfl hH⟩
  ·refine aS rfl (by rfl) ?_;go_simp;refine HVE.out.mono ?_;intro e w2 h;obtain⟨hM,rfl,hH⟩:=h.err_;exact⟨rfl,cT (HQD.out.mv.trans (hM.mono fun k _ h=> .inl h)) HE.out rfl hH⟩
 done
theorem zX (X:MX) (C:Cx) (n:Nat) (nm:List UInt8) (ex:List Ex) (bd el:List St) (hEx: ∀y∈ex,m7 X C n y):rT X C n (.mk 6 nm ex bd el):=by
 intro σ l fb lb w A1 A2 A3 c1 c2 c3 hA hF hl hn hRe hRb hRl;simp only[St.k,St.nm,St.ex,St.body,St.els]at hRe hRb hRl⊢;have hn1:2*σ.step.left<=n:=by show 2*(σ.left-1)<=n;omega
 have HQ0:=G (jo hA hF hRe hRb hRl #[.int .i64 6, .string (ai nm), .slice A1 ex.length c1, .slice A2 bd.length c2, .slice A3 el.length c3]);have HS:=G (eR HQ0.out.ma hl);have HVL:=G (fun W (h:y8 X C σ.step l fb lb w.heap.size (w.heap.size+1) (w.heap.size+1+1) #[.int .i64 6, .string (ai nm), .slice A1 ex.length c1, .slice A2 bd.length c2, .slice A3 el.length c3] (.slice A1 ex.length c1) ex W)=>gy X C n 6 nm ex hEx σ.step l fb lb w.heap.size (w.heap.size+1) (w.heap.size+1+1) A1 ex.length c1 (.slice A2 bd.length c2) (.slice A3 el.length c3) W h hn1);have hmf: ∀(fn:Fn) (first cap:Array Value) (w:World),(Instr.makeFunc fn first cap).run prog w= .ok (.func fn first cap) w:=fun _ _ _ _=>rfl;have hE:=wU (C:=C) (n:=n) (l:=l) (nm:=nm) (e:=ex) (b:=bd) (c:=el) hl;have f0:=HQ0.out.b0.cell;have hrg:j0 σ.step:=fun x=>hA.rng x;have hlo:=hF.fr.rng
 cases hr:val C n σ.step l ex with
 |error oc=>exact rj X C n nm ex bd el hEx oc σ l fb lb w A1 A2 A3 c1 c2 c3 hA hF hl hn hRe hRb hRl hr
 |ok p=>
  obtain⟨v,s1⟩:=p;clear hA hF hRe hRb hRl;simp only[MX.p]at*;rw[hr,eh]at hE;have HE:=G hE;clear hE;go_enter func130,ntmps130;go_wp2_with (go_at_call 162;refine HS.out.mono ?_;rintro e w1 ⟨rfl,hM,hA1⟩;have HQ1:=G (HQ0.out.ms hM hA1);clear f0;have f0:=HQ1.out.b0.cell;have f1:=HQ1.out.b1.cell;have f2:=HQ1.out.b2.cell;have fk:=HQ1.out.fi.fr.blk.cell;clear hM hA1 HS HQ0);have HQD:=G (HQ1.out.ext (jh (aR _)));have hve:=HVL.out _ HQD.out.vq;rw[hr]at hve;have HVE:=G hve;clear hve f0 f1 f2 fk HVL;have f0:=HQD.out.b0.cell;have f1:=HQD.out.b1.cell;have f2:=HQD.out.b2.cell;have fk:=HQD.out.fi.fr.blk.cell
  go_region_with (go_at_call 163;refine HVE.out.mono ?_;intro e w2 h;obtain⟨hM,rfl,hA2⟩:=h.ok_;have HQ2:=G (HQD.out.ms hM hA2);clear f0 f1 f2 fk;have f0:=HQ2.out.b0.cell;have f1:=HQ2.out.b1.cell;have f2:=HQ2.out.b2.cell;have fk:=HQ2.out.fi.fr.blk.cell;have fz:=HQ2.out.fi.fr.blk.frozen;have HQ3:=G (HQ2.out.rt v);clear hM hA2 h)
  all_goals (exact bodyPost_end (results_none rfl _ _ _) rfl (gE HQ3.out.mv HE.out HQ3.out.ma HQ3.out.fi.fr))
end
section
open Go.RowKit
theorem EN (u:Int):IntKind.u8.wrap u=((UInt8.ofNat (u%256).toNat).toNat:Int):=by
 have h1:0<=u%256:=Int.emod_nonneg _ (by decide);have h2:u%256<256:=Int.emod_lt_of_pos _ (by decide);have h3:(UInt8.ofNat (u%256).toNat).toNat=(u%256).toNat:=by
  rw[gU];omega
 rw[h3,Int.toNat_of_nonneg h1];simp[IntKind.wrap,IntKind.signed,IntKind.bits]
theorem z7 (X:MX) (C:Cx) (n:Nat) (nm:List UInt8) (ex:List Ex) (bd el:List St) (hnm:nm.length<=1073741824) (hEx: ∀y∈ex,m7 X C n y) (h2:2<=ex.length):rT X C n (.mk 3 nm ex bd el):=by
 intro σ l fb lb w A1 A2 A3 c1 c2 c3 hA hF hl hn hRe hRb hRl;simp only[St.k,St.nm,St.ex,St.body,St.els]at hRe hRb hRl⊢;have hn1:2*σ.step.left<=n:=by show 2*(σ.left-1)<=n;omega
 have HQ0:=G (jo hA hF hRe hRb hRl #[.int .i64 3, .string (ai nm), .slice A1 ex.length c1, .slice A2 bd.length c2, .slice A3 el.length c3]);have HS:=G (eR HQ0.out.ma hl);have HVL:=G (fun W (h:y8 X C σ.step l fb lb w.heap.size (w.heap.size+1) (w.heap.size+1+1) #[.int .i64 3, .string (ai nm), .slice A1 ex.length c1, .slice A2 bd.length c2, .slice A3 el.length c3] (.slice A1 ex.length c1) ex W)=>gy X C n 3 nm ex hEx σ.step l fb lb w.heap.size (w.heap.size+1) (w.heap.size+1+1) A1 ex.length c1 (.slice A2 bd.length c2) (.slice A3 el.length c3) W h hn1);have hmf: ∀(fn:Fn) (first cap:Array Value) (w:World),(Instr.makeFunc fn first cap).run prog w= .ok (.func fn first cap) w:=fun _ _ _ _=>rfl;have hE:=C0 (C:=C) (n:=n) (l:=l) (nm:=nm) (e:=ex) (b:=bd) (c:=el) hl;have f0:=HQ0.out.b0.cell;have hrg:j0 σ.step:=fun x=>hA.rng x;have hlo:=hF.fr.rng;obtain⟨b,o,B1,d1,hAq,hb,hPb,hZ,hRz⟩:=hRe.yc 1 (by omega);have hz:=hEx _ (au (show 1<ex.length by omega));have hz1:ex.getD 1 nB=ex[1]'(by omega):=by rw[bB,aI (by omega)];rfl
 rw[hz1]at hE;obtain⟨z,hzz⟩: ∃z,ex[1]'(by omega)=z:=⟨_,rfl⟩
 rw[hzz]at hE hz hZ hRz;obtain⟨k3,op3,nm3,tx3,v3,as3⟩:=z;unfold m7 at hz;simp only[Ex.k,Ex.op,Ex.nm,Ex.tx,Ex.v,Ex.args,cf]at hZ hRz hz;have HVz:=G hz;have HZ:=G hZ;have HRz:=G hRz;have h2':(1:Int)<(ex.length:Int):=by omega
 have h2n:1<ex.length:=by omega
 clear hzz hz hZ hRz hz1;subst hAq;clear hA hF hRe hRb hRl;simp only[MX.p]at*;rcases hr:val C n σ.step l ex with oc|⟨v,s1⟩
 ·rw[hr,ed]at hE;have HE:=G hE;clear hE;go_enter func130,ntmps130;go_wp2_with (first|(go_at_call 162;refine HS.out.mono ?_;rintro e w1 ⟨rfl,hM,hA1⟩;have HQ1:=G (HQ0.out.ms hM hA1);clear f0;have f0:=HQ1.out.b0.cell;have f1:=HQ1.out.b1.cell;have f2:=HQ1.out.b2.cell;have fk:=HQ1.out.fi.fr.blk.cell;clear hM hA1 HS HQ0)|(go_at_call 163;refine(HVL.out _ HQ1.out.vq).mono ?_;intro e w2 h;rw[hr]at h;obtain⟨hM,rfl,hH⟩:=h.err_;have HMx:=G (HQ1.out.mv.trans (hM.mono fun k _ h=> .inl h));have HH:=G hH;clear hM hH h HVL));exact⟨rfl,cT HMx.out HE.out rfl HH.out⟩
 ·rw[hr,eh]at hE;have hv:=pT hr hrg hlo;have hn2:2*s1.left<=n:=by have:=qB hr;omega
  go_enter func130,ntmps130;go_wp2_with (first|(go_at_call 162;refine HS.out.mono ?_;rintro e w1 ⟨rfl,hM,hA1⟩;have HQ1:=G (HQ0.out.ms hM hA1);clear f0;have f0:=HQ1.out.b0.cell;have f1:=HQ1.out.b1.cell;have f2:=HQ1.out.b2.cell;have fk:=HQ1.out.fi.fr.blk.cell;clear hM hA1 HS HQ0)|(go_at_call 163;refine(HVL.out _ HQ1.out.vq).mono ?_;intro e w2 h;rw[hr]at h;obtain⟨hM,rfl,hA2⟩:=h.ok_;have HQ2:=G (HQ1.out.ms hM hA2);clear f0 f1 f2 fk;have f0:=HQ2.out.b0.cell;have f1:=HQ2.out.b1.cell;have f2:=HQ2.out.b2.cell;have fk:=HQ2.out.fi.fr.blk.cell;clear hM hA2 h HVL));have HKP:=G (show cC X.P w w2 from HQ2.out.mv.keepP fun k hk _=>MX.T_P HQ2.out.fi.f HQ2.out.fi.l HQ2.out.ma.ok hk);have HZ2:=G (HZ.out.kp HKP.out hPb hb);have HRz2:=G (HRz.out.keep HKP.out (Q:=X.P) fun b hb _=>hb);have hb2:=aA hb HKP.out.size;clear f0 f1 f2 fk HKP;rcases hs:ev C n s1 l (Ex.mk k3 op3 nm3 tx3 v3 as3)with oc|⟨u,s2⟩
  ·rw[hs,ed]at hE;have HE:=G hE;clear hE;refine az 6 1 [] mixed (by kernel_rfl) trivial ?_
   iterate 6 (refine sx ?_ (fun w1 hU=> ?_) ?_;rotate_left;(focus obtain⟨q0,q1,q2,q3⟩:=HQ2.out.cl (.of_ext hU.un);have f0:=q0.cell;have f1:=q1.cell;have f2:=q2.cell;obtain⟨e0,e1,e2,e3,e4,e5⟩:=HZ2.out.kp (.of_ext (P:=fun _=>True) hU.un) trivial hb2;clear hU q0 q1 q2 q3;go_simp<;>with_reducible rfl);simp only[aY,aX,aW,aV,aU])
   intro w7 hw7 _;simp only[ac,ap];have HQ3:=G (HQ2.out.ext hw7.un);have HRz3:=G (HRz2.out.xt hw7.un);clear hw7;have f0:=HQ3.out.b0.cell;have f1:=HQ3.out.b1.cell;have f2:=HQ3.out.b2.cell;have fk:=HQ3.out.fi.fr.blk.cell;go_wp2_with (go_at_call 164;refine(HVz.out s1 l fb lb _ B1 d1 HQ3.out.ma HQ3.out.fi hn2 HRz3.out).mono ?_;intro e w4 h;rw[hs]at h;obtain⟨hM,rfl,hH⟩:=h.err_;have HMx:=G (HQ3.out.mv.trans (hM.mono fun k _ h=> .inl h));have HH:=G hH;clear hM hH h);exact⟨rfl,cT HMx.out HE.out rfl HH.out⟩
  ·rw[hs,eh]at hE;refine az 6 1 [] mixed (by kernel_rfl) trivial ?_
   iterate 6 (refine sx ?_ (fun w1 hU=> ?_) ?_;rotate_left;(focus obtain⟨q0,q1,q2,q3⟩:=HQ2.out.cl (.of_ext hU.un);have f0:=q0.cell;have f1:=q1.cell;have f2:=q2.cell;obtain⟨e0,e1,e2,e3,e4,e5⟩:=HZ2.out.kp (.of_ext (P:=fun _=>True) hU.un) trivial hb2;clear hU q0 q1 q2 q3;go_simp<;>with_reducible rfl);simp only[aY,aX,aW,aV,aU])
   intro w7 hw7 _;simp only[ac,ap];have HQ3:=G (HQ2.out.ext hw7.un);have HRz3:=G (HRz2.out.xt hw7.un);clear hw7;have f0:=HQ3.out.b0.cell;have f1:=HQ3.out.b1.cell;have f2:=HQ3.out.b2.cell;have fk:=HQ3.out.fi.fr.blk.cell;by_cases hin:0<=v/\v<((s2.arrs nm).length:Int)
   ·rw[if_pos hin]at hE;have HE:=G hE;obtain⟨kk,rfl⟩:=cD hin.1;have hkl:kk<(s2.arrs nm).length:=by omega
    have hne:s2.arrs nm≠ []:=fun e=>by rw[e]at hkl;simp at hkl
    have HEL:=G (show gA X s2 nm (kk:Int)= .returned (.pointer (some ⟨X.rb nm,kk,none⟩)) by unfold gA;rw[if_pos hin];rfl);have hwb:=EN u;obtain⟨bb,hbb⟩: ∃bb,UInt8.ofNat (u%256).toNat=bb:=⟨_,rfl⟩
    rw[hbb]at hwb HE;rw[cV]at HE;clear hE hin hbb;go_wp2_with (first|(go_at_call 164;refine(HVz.out s1 l fb lb _ B1 d1 HQ3.out.ma HQ3.out.fi hn2 HRz3.out).mono ?_;intro e w4 h;rw[hs]at h;obtain⟨hM,rfl,hA4⟩:=h.ok_;have HQ4:=G (HQ3.out.ms hM hA4);clear f0 f1 f2 fk;have f0:=HQ4.out.b0.cell;have f1:=HQ4.out.b1.cell;have f2:=HQ4.out.b2.cell;have fk:=HQ4.out.fi.fr.blk.cell;clear hM hA4 h)|(go_at_call 166;refine(iF X C s2 _ HQ4.out.ma nm hnm (kk:Int) hv).mono ?_;rw[HEL.out];rintro e w5 ⟨rfl,hE⟩;have HQ5:=G (HQ4.out.ext hE);have hrw:=(HQ5.out.ma.row nm hne).1;have hrc:w5.cell? ⟨X.rb nm,kk,none⟩=some (.int .u8 ((s2.arrs nm)[kk].toNat:Int)):=(by rw[hrw.cell];simp[y6,kr,r9,hkl]);have hrz:=hrw.frozen kk;clear hE hrw));have HQ6:=G (HQ5.out.ms (.of_grown (cd w5 (X.rb nm) kk (.int .u8 (bb.toNat:Int))) fun k e=>by injection e with e;subst e;exact(HQ5.out.ma.row nm hne).2.1) (HQ5.out.ma.setA1 (b:=bb) hkl));exact bodyPost_end (results_none rfl _ _ _) rfl (gE HQ6.out.mv HE.out HQ6.out.ma HQ6.out.fi.fr)
   ·rw[if_neg hin]at hE;have HE:=G hE;have HEL:=G (show gA X s2 nm v= .panicked [{v:= .iface 129 (.agg #[.int .i64 2]),recovered:=false}] by unfold gA;rw[if_neg hin];rfl);clear hE hin;go_wp2_with (first|(go_at_call 164;refine(HVz.out s1 l fb lb _ B1 d1 HQ3.out.ma HQ3.out.fi hn2 HRz3.out).mono ?_;intro e w4 h;rw[hs]at h;obtain⟨hM,rfl,hA4⟩:=h.ok_;have HQ4:=G (HQ3.out.ms hM hA4);clear f0 f1 f2 fk;have f0:=HQ4.out.b0.cell;have f1:=HQ4.out.b1.cell;have f2:=HQ4.out.b2.cell;have fk:=HQ4.out.fi.fr.blk.cell;clear hM hA4 h)|(go_at_call 166;refine(iF X C s2 _ HQ4.out.ma nm hnm v hv).mono ?_;rw[HEL.out];rintro e w5 ⟨rfl,hE⟩;have HQ5:=G (HQ4.out.ext hE);have HH:=G (HQ5.out.ma.halt 2);clear hE));exact⟨rfl,cT HQ5.out.mv HE.out rfl HH.out⟩
end
end Go.Proofs.YtddomeddabfinaaGreatDoor
