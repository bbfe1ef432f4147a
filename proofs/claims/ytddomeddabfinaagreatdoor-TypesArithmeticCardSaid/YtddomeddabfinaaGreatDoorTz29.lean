/-
  Parts of the proof: TyBu TySs TySt TySu TyWh.
-/
import Derived.Test.YtddomeddabfinaaGreatDoorTz00
import Derived.Lib.ConvBytes
import Derived.Test.YtddomeddabfinaaGreatDoorTz26
import Derived.Test.YtddomeddabfinaaGreatDoorTz27
import Derived.Test.YtddomeddabfinaaGreatDoorTz28
set_option maxRecDepth 100000
set_option maxHeartbeats 8000000
set_option linter.unusedVariables false
set_option linter.unusedSimpArgs false
set_option linter.unusedSectionVars false
namespace Go.Proofs.YtddomeddabfinaaGreatDoor
open Go.Proofs.Tryz
section
open Go.RowKit
theorem yq (w:World) (t:List UInt8) (ht:t.length<=1073741824): ∃g c W1,(Go.convert 9 40 (.string (ai t))).run prog w= .ok (.slice (some ⟨g,0,none⟩) t.length c) W1/\aq w W1/\Sl W1 (some ⟨g,0,none⟩) c t/\w.heap.size<=g:=by
 have h:=Lib.run_convert_string_bytes (P:=prog) w 9 40 5 (ai t) (u:= .string) underlying9 underlying40 underlying5;rw[a7]at h;refine⟨_,_,_,h,⟨rfl,rfl,rfl,by rw[Lib.bytesWorld_size];omega,fun k hk=>Lib.bytesWorld_at_old w _ _ k hk⟩,⟨grownCap_ge w t.length 0 _,grownCap_le_maxLen w t.length 0 _ (by simp only[maxLen];omega),(fun h=>by cases h), .inr ⟨_,0,rfl,by rw[Lib.bytesWorld_size];omega,fun i hi=> ?_⟩⟩,ah _⟩;rw[aD,Lib.bytesWorld_cell w _ _ i (by rw[a7];exact hi)];simp[ai,hi,List.getD]
def y_ (X:MX) (n0:Nat) (w:World) (d:Dt) (v:Value):Prop:=match d with
 | .no=>v= .slice none 0 0
 | .txt t=> ∃A c,v= .slice A t.length c/\Sl w A c t/\t.length<=1073741824/\ ∀b o,A=some ⟨b,o,none⟩->t≠ []->n0<=b
 | .arr nm=>v=qv X nm
theorem y_.mv {X:MX} {n0:Nat} {w w':World} {d:Dt} {v:Value} {S:Nat->Prop} (h:y_ X n0 w d v) (hM:Mv S w w') (hS: ∀k,n0<=k-> ¬S k):y_ X n0 w' d v:=by
 cases d with
 |no=>exact h
 |txt t=>
  obtain⟨A,c,h1,h2,h4,h3⟩:=h;exact⟨A,c,h1,h2.keepP (P:=fun b=>n0<=b) (hM.keepP fun k hk _=>hS k hk) h3,h4,h3⟩
 |arr nm=>exact h
theorem y_.toV {X:MX} {n0:Nat} {w:World} {d:Dt} {v:Value} (h:y_ X n0 w d v) (hn:X.hi<=n0):Ew X w d v:=by
 cases d with
 |no=>exact h
 |txt t=>
  obtain⟨A,c,h1,h2,_,h3⟩:=h;exact⟨A,c,h1,h2,fun b o e hne=>by have:=h3 b o e hne;omega⟩
 |arr nm=>exact h
theorem y_.len {X:MX} {C:Cx} {σ:Ms} {n0:Nat} {w:World} {d:Dt} {v:Value} (h:y_ X n0 w d v) (hA:MA X C σ w):(d.rd σ).length<=1073741824:=by
 cases d with
 |no=>exact aG _
 |txt t=>obtain⟨A,c,_,_,h4,_⟩:=h;exact h4
 |arr nm=>
  show(σ.arrs nm).length<=_;by_cases e:σ.arrs nm=[]
  ·rw[e];exact aG _
  ·exact(hA.row nm e).2.2.2
theorem Sl.take {w:World} {A:Option Addr} {c:Nat} {l:List UInt8} (h:Sl w A c l) (k:Nat):Sl w A c (l.take k):=by
 refine⟨by rw[bE];have:=h.le;omega,h.max,h.nil,?_⟩;rcases h.rd with rfl|⟨b,o,rfl,hb,hc⟩
 ·left;simp
 ·right;refine⟨b,o,rfl,hb,fun i hi=> ?_⟩;rw[bE]at hi;rw[iq];exact hc i (by omega)
structure BQ (X:MX) (C:Cx) (σ:Ms) (l:Lo) (fb lb:Nat) (w:World) (cs:Array Value) (v:Value) (xs:List Ex) (vs:List Int) (d:Dt) (dv:Value) (W:World):Prop where
 q:EQ X C σ l fb lb w w.heap.size cs v xs W
 ab:aL W (w.heap.size+1) 39 (aC vs)
 dt:y_ X (w.heap.size+2) W d dv
section
variable {X:MX} {C:Cx} {σ σ':Ms} {l:Lo} {fb lb:Nat} {w W W':World} {cs:Array Value} {v:Value} {xs:List Ex} {vs:List Int} {d:Dt} {dv:Value}
theorem BQ.ms (h:BQ X C σ l fb lb w cs v xs vs d dv W) (hM:Mv X.S W W') (hA:MA X C σ' W'):BQ X C σ' l fb lb w cs v xs vs d dv W':=by
 have hw:=h.q.hw;exact⟨h.q.nx hM hA,hM.blk h.ab (gS (by omega)),h.dt.mv hM fun k hk=>gS (by omega)⟩
theorem BQ.ext (h:BQ X C σ l fb lb w cs v xs vs d dv W) (hE:aq W W'):BQ X C σ l fb lb w cs v xs vs d dv W':=h.ms (.of_ext hE) (h.q.ma.ext hE)
theorem BQ.arg (h:BQ X C σ l fb lb w cs v xs vs d dv W) (hv:vs.length<3) (z:Int) (lf:fb<w.heap.size) (ll:lb<w.heap.size):BQ X C σ l fb lb w cs v xs (vs++[z]) d dv (W.setCell ⟨w.heap.size+1,vs.length,none⟩ (.int .i64 z)):=by
 have hg:=cd W (w.heap.size+1) vs.length (.int .i64 z);have hM:Mv (fun k=>k=w.heap.size+1) W (W.setCell ⟨w.heap.size+1,vs.length,none⟩ (.int .i64 z)):= .of_grown hg fun k e=>by injection e with e;exact e.symm
 refine⟨h.q.row hg (fun k e=>by injection e with e;omega) lf ll,?_,h.dt.mv hM fun k hk e=>by omega⟩;rw[<-AQ vs z hv];exact h.ab.set _ _
theorem BQ.put (h:BQ X C σ l fb lb w cs v xs vs d dv W) {d':Dt} {dv':Value} (hd:y_ X (w.heap.size+2) W d' dv'):BQ X C σ l fb lb w cs v xs vs d' dv' W:=⟨h.q,h.ab,hd⟩
end
theorem xa {s:Ms} {nm:List UInt8} (h:s.arrs nm=[]):s.setA nm []=s:=by
 unfold Ms.setA
 congr 1
 funext x;by_cases e:x=nm
 ·rw[if_pos e,e,h]
 ·rw[if_neg e]
theorem yl {X:MX} {n0:Nat} {w:World} {d:Dt} {A:Option Addr} {n c:Nat} (h:y_ X n0 w d (.slice A n c)) (ht: ∀t,d≠ .txt t):(A=none/\n=0/\c=0/\(d= .no\/ ∃nm,d= .arr nm/\X.al nm=0))\/ ∃nm,d= .arr nm/\A=some ⟨X.rb nm,0,none⟩/\n=X.al nm/\c=X.al nm/\X.al nm≠0:=by
 cases d with
 |txt t=>exact absurd rfl (ht t)
 |no=>
  have h:Value.slice A n c= .slice none 0 0:=h;injection h with h1 h2 h3;exact .inl ⟨h1,h2,h3, .inl rfl⟩
 |arr nm=>
  have h:Value.slice A n c=qv X nm:=h;unfold qv at h;by_cases hz:X.al nm=0
  ·rw[if_pos hz]at h;injection h with h1 h2 h3;exact .inl ⟨h1,h2,h3, .inr ⟨nm,rfl,hz⟩⟩
  ·rw[if_neg hz]at h;injection h with h1 h2 h3;exact .inr ⟨nm,rfl,h1,h2,h3,hz⟩
theorem Db {X:MX} {C:Cx} {s:Ms} {w:World} {d:Dt} {r:List UInt8} (hA:MA X C s w) (hd:d= .no\/ ∃nm,d= .arr nm/\X.al nm=0):d.put s 0 r=s:=by
 rcases hd with rfl|⟨nm,rfl,hz⟩
 ·rfl
 ·have h:=hA.len nm;rw[hz]at h;have h0:s.arrs nm=[]:=aJ h;show s.setA nm (r.take 0++(s.arrs nm).drop (min 0 r.length))=s;rw[h0];simpa using xa h0
theorem MA.putD {X:MX} {C:Cx} {s:Ms} {w w':World} {nm:List UInt8} (h:MA X C s w) (hz:X.al nm≠0) (k:Nat) (hk:k<=X.al nm) (r:List UInt8) (hg:w.grownBy w' (some (X.rb nm))) (hR:Rw w' (X.rb nm) 5 (BB (s.arrs nm) 0 (r.take k))):MA X C ((Dt.arr nm).put s k r) w':=by
 have hl:=h.len nm;have e:BB (s.arrs nm) 0 (r.take k)=r.take k++(s.arrs nm).drop (min k r.length):=by simp[BB,bE]
 rw[e]at hR;exact h.putA (fun e=>by rw[e]at hl;exact hz hl.symm) (by rw[aa,bE,bm];omega) hg hR
theorem Dr (vs:List Int) (i:Nat) (h:i<3):(aC vs)[i]? =some (.int .i64 (vs.getD i 0)):=by
 obtain rfl|rfl|rfl:i=0\/i=1\/i=2:=by omega
 all_goals rfl
theorem yv {ls:List UInt8} {j:Nat} (h:j<ls.length):((ls.drop j).filter (· ==105)).length=(if ls[j]=105 then 1 else 0)+((ls.drop (j+1)).filter (· ==105)).length:=by
 rw[ay h,List.filter_cons];by_cases e:ls[j]=105
 ·rw[if_pos (by simp[e]),if_pos e,ae];omega
 ·rw[if_neg (by simp[e]),if_neg e];omega
theorem BJ (r1:Int) (da:Option Addr) (nd dc:Nat) (w:World):(Instr.field 80 (.agg #[.int .i64 r1, .slice da nd dc]) 0).run prog w= .ok (.int .i64 r1) w:=by kernel_rfl
theorem xH (X:MX) (C:Cx) (n:Nat) (k:Int) (op nm tx:List UInt8) (v:Int) (xs:List Ex) (bc:Int) (ls:List UInt8) (hb:ee nm=some (bc,ls)) (hla:xs.length=ls.length) (hls:ls.length<=3) (h9:bc=9-> ∀y∈xs,y.k≠2) (hV: ∀j (h:j<xs.length) (h':j<ls.length),ls[j]=105->m7 X C n xs[j]) (hY2: ∀y∈xs,y.nm.length<=1073741824/\y.tx.length<=1073741824):Cz X C n k op nm tx v xs bc ls:=by
 intro σ l fb lb w A c hA hF hn hR;have HV:=G hV;have HY2:=G hY2;have H9:=G h9;have HR:=G hR;have hcnt:=(yF hb).1;have HLT:=G (rO hb);obtain⟨Rv,hRv⟩: ∃R,oz C.R (fun s y=>ev C n s l y) σ bc ls xs=R:=⟨_,rfl⟩
 have HE0:=G (show(dW (fun s y=>ev C n s l y) (ls.drop 0) (xs.drop 0) [] 0 .no σ).then (fun(p:List Int×Int×Dt) s=>nc C.R bc p.1 p.2.1 p.2.2 s)=Rv from by rw[<-hRv];rfl);rw[hRv];obtain⟨N,hN⟩: ∃N,xs.length=N:=⟨_,rfl⟩
 have HN:=G hN;rw[hN]at hR HR hla⊢;have hNb:N<=3:=by omega
 have HLA:=G hla;have lf:=hF.fr.blk.lt;have ll:=hF.fr.m.lt;have HLF:=G (ax lf ll);have HQ0:=G (iU hA hF hR #[.int .i64 k, .string (ai op), .string (ai nm), .string (ai tx), .int .i64 v, .slice A N c]);have hE1:=O (w.alloc (.cells #[.int .i64 k, .string (ai op), .string (ai nm), .string (ai tx), .int .i64 v, .slice A N c] 70)) (.cells #[.int .i64 0, .int .i64 0, .int .i64 0] 39);have hab:=an (w.alloc (.cells #[.int .i64 k, .string (ai op), .string (ai nm), .string (ai tx), .int .i64 v, .slice A N c] 70)) 39 #[.int .i64 0, .int .i64 0, .int .i64 0];rw[World.size_alloc]at hab;have HB0:=G (show BQ X C σ l fb lb w #[.int .i64 k, .string (ai op), .string (ai nm), .string (ai tx), .int .i64 v, .slice A N c] (.slice A N c) xs [] .no (.slice none 0 0) ((w.alloc (.cells #[.int .i64 k, .string (ai op), .string (ai nm), .string (ai tx), .int .i64 v, .slice A N c] 70)).alloc (.cells #[.int .i64 0, .int .i64 0, .int .i64 0] 39))from⟨HQ0.out.ext hE1,hab,rfl⟩);have f0:=HB0.out.q.bk.cell;have HNN:=G hn;have HI0:=G (show md []/\eO 0 from⟨fun x hx=>(by cases hx),by decide⟩);have HC0:=G (show 0+((ls.drop 0).filter (· ==105)).length<=2 by rw[ap];omega);have H90:=G (show bc=9-> ∀t,Dt.no≠ .txt t from fun _ t e=>by cases e);clear hA hF hR hN hV hRv lf ll hn hY2 h9 hE1 hab HQ0 hcnt hb hla;simp only[MX.p]at*;go_enter func209,ntmps209;go_wp2_with fail;clear f0
 go_loopw [12,13,14,21] (fun vd vn vl vi wr=> ∃(j:Nat) (vs:List Int) (nv:Nat) (la:Int) (d:Dt) (σj:Ms),vi= .int .i64 (j:Int)/\vn= .int .i64 (nv:Int)/\vl= .int .i64 la/\j<=N/\Hid (vs.length=nv)/\Hid (nv+((ls.drop j).filter (· ==105)).length<=2)/\Hid (2*σj.left<=n)/\Hid ((dW (fun s y=>ev C n s l y) (ls.drop j) (xs.drop j) vs la d σj).then (fun(p:List Int×Int×Dt) s=>nc C.R bc p.1 p.2.1 p.2.2 s)=Rv)/\Hid (BQ X C σj l fb lb w #[.int .i64 k, .string (ai op), .string (ai nm), .string (ai tx), .int .i64 v, .slice A N c] (.slice A N c) xs vs d vd wr)/\Hid (md vs/\eO la)/\Hid (bc=9-> ∀t,d≠ .txt t)) (fun _ _ _ vi _=>N-(intOf vi).toNat)
 case atStart=>exact⟨0,[],0,0, .no,σ,rfl,rfl,rfl,aG _,G rfl,HC0,HNN,HE0,HB0,HI0,H90⟩
 case round=>
  obtain⟨j,vs,nv,la,d,σj,rfl,rfl,rfl,hj,HL,HC,HNj,HQ,HB,HI,H9d⟩:=hrel;by_cases hlt:j<N
  ·have hlt':(j:Int)<N:=by omega
   have hjl:j<xs.length:=by have:=HN.out;omega
   have hjs:j<ls.length:=by have:=HLA.out;omega
   have hjs':(j:Int)<ls.length:=by omega
   obtain⟨b,o,B2,d2,rfl,hb,hPb,hY,hRy⟩:=HR.out.yc j hjl;have hE1:=tj (E:=(fun s y=>ev C n s l y)) (vs:=vs) (la:=la) (d:=d) (s:=σj) hjs hjl;have hVy:=HV.out j hjl hjs;have hyk:=fun h=>H9.out h _ (au hjl);have hy2:=HY2.out _ (au hjl);have hcd:=yv hjs;have hq:=HLT.out _ (au hjs);have hix:=fun w=>mr ls j hjs w;obtain⟨y,hy⟩: ∃y,xs[j]=y:=⟨_,rfl⟩
   rw[hy]at hY hRy hE1 hVy hyk hy2;clear hy;obtain⟨k2,op2,nm2,tx2,v2,as2⟩:=y;unfold m7 at hVy;simp only[Ex.k,Ex.op,Ex.nm,Ex.tx,Ex.v,Ex.args]at hY hRy hVy hyk hy2;obtain⟨e0,e1,e2,e3,e4,e5⟩:=hY.ms HB.out.q.mv hPb hb;have hAl:=O wr (.cells #[.int .i64 k2, .string (ai op2), .string (ai nm2), .string (ai tx2), .int .i64 v2, .slice B2 as2.length d2] 70);have HB1:=G (HB.out.ext hAl);have HY1:=G (an wr 70 #[.int .i64 k2, .string (ai op2), .string (ai nm2), .string (ai tx2), .int .i64 v2, .slice B2 as2.length d2]);have hyx: ¬X.S wr.heap.size:=gS (aZ HB.out.q.hw HB.out.q.mv.size);have HYX:=G hyx;have HRy:=G ((hRy.ms HB.out.q.mv).xt hAl);have hwn:w.heap.size+1<wr.heap.size:=HB.out.ab.lt;generalize ls[j]=q at hE1 hVy hcd hq hix;clear hyx hY hRy hAl;by_cases hq5:q=105
   ·subst hq5;rw[if_pos rfl]at hE1 hcd;have hix: ∀w,(Instr.index 9 (.string (ai ls)) (.int .i64 (j:Int))).run prog w= .ok (.int .u8 105) w:=hix;have hnv:nv<=1:=by have:=HC.out;omega
    have hnv3:nv<3:=by omega
    have hnv3':(nv:Int)<3:=by omega
    have HCx:=G (show nv+1+((ls.drop (j+1)).filter (· ==105)).length<=2 by have:=HC.out;omega);have HCy:=G (hVy rfl σj l fb lb _ B2 d2 HB1.out.q.ma HB1.out.q.fi HNj.out HRy.out);simp only[MX.p]at HCy;have hrg:=HB1.out.q.ma.rng;have hlo:=HB1.out.q.fi.fr.rng;rcases hr:ev C n σj l (.mk k2 op2 nm2 tx2 v2 as2)with oc|⟨z,s2⟩
    ·rw[hr,ed]at hE1;have HEE:=G (show Rv= .error oc by rw[<-HQ.out,hE1];rfl);rw[hr]at HCy;clear hE1 hr hVy hq hcd hyk hy2;go_wp2_with (go_at_call 164;refine HCy.out.mono ?_;intro e w3 h;obtain⟨hM,rfl,hH⟩:=h.err_;have HMx:=G (HB1.out.q.mv.trans hM);have HH:=G hH;clear hM hH h HCy);exact⟨rfl,cZ HMx.out HEE.out rfl HH.out⟩
    ·have hzi:=mG hr hrg hlo;have hle:=nz hr;rw[hr,eh]at hE1;have HEE:=G (show(dW (fun s y=>ev C n s l y) (ls.drop (j+1)) (xs.drop (j+1)) (vs++[z]) z d s2).then (fun(p:List Int×Int×Dt) s=>nc C.R bc p.1 p.2.1 p.2.2 s)=Rv by rw[<-HQ.out,hE1]);rw[hr]at HCy;have hzw:IntKind.i64.wrap z=z:=by unfold eO at hzi;simp[IntKind.wrap,IntKind.signed,IntKind.bits];omega
     clear hE1 hr hrg hlo hVy hq hcd hyk hy2;go_wp2_with (go_at_call 164;refine HCy.out.mono ?_;intro e w3 h;obtain⟨hM,rfl,hA3⟩:=h.ok_;have HB3:=G (HB1.out.ms hM hA3);have ha:=HB3.out.ab.cell;have haz:=HB3.out.ab.frozen;simp only[aC]at ha;have HB4:=G (show BQ X C s2 l fb lb w #[.int .i64 k, .string (ai op), .string (ai nm), .string (ai tx), .int .i64 v, .slice (some ⟨b,o,none⟩) N c] (.slice (some ⟨b,o,none⟩) N c) xs (vs++[z]) d _ (w3.setCell ⟨w.heap.size+1,nv,none⟩ (.int .i64 z))from HL.out▸HB3.out.arg (by have:=HL.out;omega) z HLF.out.1 HLF.out.2);have hav:w3.cell? ⟨w.heap.size+1,nv,none⟩=(aC vs)[nv]? :=HB3.out.ab.cell nv;rw[Dr vs nv hnv3]at hav;clear hM hA3 h HCy);go_roundw
     case rel=>exact⟨j+1,vs++[z],nv+1,z,d,s2,by go_num,by go_num,rfl,by omega,G (by rw[aa,HL.out];rfl),HCx,G (by have:=HNj.out;omega),HEE,HB4,G ⟨HI.out.1.snoc hzi,hzi⟩,H9d⟩
     case measure=>simp[intOf];omega
   ·rw[if_neg hq5]at hE1 hcd;have hqb:((q.toNat:Int)==105)=false:=by
     rcases hq with rfl|rfl|rfl|rfl
     ·exact absurd rfl hq5
     all_goals decide
    have HCx:=G (show nv+((ls.drop (j+1)).filter (· ==105)).length<=2 by have:=HC.out;omega);clear hVy hq hcd hq5;by_cases hk2:k2=2
    ·subst hk2;have hE1:dW (fun s y=>ev C n s l y) (ls.drop j) (xs.drop j) vs la d σj=dW (fun s y=>ev C n s l y) (ls.drop (j+1)) (xs.drop (j+1)) vs la (.txt tx2) σj:=hE1.trans (if_pos rfl);have HEE:=G (show(dW (fun s y=>ev C n s l y) (ls.drop (j+1)) (xs.drop (j+1)) vs la (.txt tx2) σj).then (fun(p:List Int×Int×Dt) s=>nc C.R bc p.1 p.2.1 p.2.2 s)=Rv by rw[<-HQ.out,hE1]);obtain⟨g5,c5,W5,hcv,hE5,hsl5,hg5⟩:=yq (wr.alloc (.cells #[.int .i64 2, .string (ai op2), .string (ai nm2), .string (ai tx2), .int .i64 v2, .slice B2 as2.length d2] 70)) tx2 hy2.2;have hsz5:(wr.alloc (.cells #[.int .i64 2, .string (ai op2), .string (ai nm2), .string (ai tx2), .int .i64 v2, .slice B2 as2.length d2] 70)).heap.size=wr.heap.size+1:=World.size_alloc _ _;have HB5:=G ((HB1.out.ext hE5).put (d':= .txt tx2) (dv':= .slice (some ⟨g5,0,none⟩) tx2.length c5) ⟨_,_,rfl,hsl5,hy2.2,fun b o e _=>by injection e with e;injection e with e1 e2;omega⟩);have H95:=G (show bc=9-> ∀t,Dt.txt tx2≠ .txt t from fun h=>absurd rfl (hyk h));clear hE1 hE5 hsl5 hyk hy2 hsz5 hg5;go_wp2_with fail;go_roundw
     case rel=>exact⟨j+1,vs,nv,la, .txt tx2,σj,by go_num,rfl,rfl,by omega,HL,HCx,HNj,HEE,HB5,HI,H95⟩
     case measure=>simp[intOf];omega
    ·have hE1:dW (fun s y=>ev C n s l y) (ls.drop j) (xs.drop j) vs la d σj=dW (fun s y=>ev C n s l y) (ls.drop (j+1)) (xs.drop (j+1)) vs la (.arr nm2) σj:=hE1.trans (if_neg hk2);have hk2b:(k2==2)=false:=by simpa using hk2
     have HEE:=G (show(dW (fun s y=>ev C n s l y) (ls.drop (j+1)) (xs.drop (j+1)) vs la (.arr nm2) σj).then (fun(p:List Int×Int×Dt) s=>nc C.R bc p.1 p.2.1 p.2.2 s)=Rv by rw[<-HQ.out,hE1]);have hnm2:=hy2.1;have H95:=G (show bc=9-> ∀t,Dt.arr nm2≠ .txt t from fun _ t e=>by cases e);obtain⟨lf,_,_,_,hmb⟩:=HB1.out.q.ma.mcl;have HMB:=G hmb;clear hE1 hyk hy2 hmb;go_wp2_with fail;refine az 8 1 [] mixed (by kernel_rfl) trivial ?_
     iterate 8 (refine sx ?_ (fun w1 hU=> ?_) ?_;rotate_left;(focus have fy:=(HY1.out.ext hU.un).cell;have fk:=(HMB.out.ext hU.un).cell;have f2:=(HB1.out.q.ma.ext hU.un).lookA hnm2;rw[HB1.out.q.ma.arrE]at f2;clear hU;go_simp<;>with_reducible rfl);simp only[aY,aX,aW,aV,aU])
     intro w7 hw7 _;simp only[ac,aM];have HB7:=G ((HB1.out.ext hw7.un).put (d':= .arr nm2) (dv':=qv X nm2) rfl);clear hw7;go_wp2_with fail;go_roundw
     case rel=>exact⟨j+1,vs,nv,la, .arr nm2,σj,by go_num,rfl,rfl,by omega,HL,HCx,HNj,HEE,HB7,HI,H95⟩
     case measure=>simp[intOf];omega
  ·obtain rfl:j=N:=by omega
   have hlt': ¬(j:Int)<j:=by omega
   have HRE:=G (show nc C.R bc vs la d σj=Rv by rw[<-HQ.out,v8 (by have:=HLA.out;omega)];rfl);have hlen:=HB.out.dt.len HB.out.q.ma;have HDT:=G HB.out.dt;have HAB:=G HB.out.ab;have hn2:=HB.out.q.hw;obtain⟨A5,c5,hvd,hsl,hsg⟩:=(HB.out.dt.toV (by omega)).sl HB.out.q.ma;have ha:=HB.out.ab.cell;simp only[aC]at ha;have hfd:=BJ;have HX:=G HB.out.q.mv;have HMA:=G HB.out.q.ma;have hla:=HI.out.2;unfold eO at hla;have hnz:nv<=2:=by have:=HC.out;omega
   subst hvd;obtain⟨dl,hdl⟩: ∃x,d.rd σj=x:=⟨_,rfl⟩
   rw[hdl]at hlen hsl hsg;obtain⟨nd,hnd⟩: ∃x,dl.length=x:=⟨_,rfl⟩
   have HND:=G hnd;have HSL:=G hsl;have HSG:=G hsg;have HDL:=G hdl;have hle5:=hsl.le;rw[hdl,hnd];rw[hnd]at hlen hle5;have hRE:=HRE.out;obtain⟨a0,ha0⟩: ∃x,vs.getD 0 0=x:=⟨_,rfl⟩
   obtain⟨a1,ha1⟩: ∃x,vs.getD 1 0=x:=⟨_,rfl⟩
   obtain⟨a2,ha2⟩: ∃x,vs.getD 2 0=x:=⟨_,rfl⟩
   unfold nc at hRE;rw[ha0,ha1,ha2,hdl]at hRE;rw[ha0,ha1,ha2]at ha;have hwr: ∀z:Int,IntKind.i32.wrap z=kI z:=fun _=>rfl;have hab2:=HAB.out;unfold aC at hab2;rw[ha0,ha1,ha2]at hab2;have HAB2:=G hab2;rw[hdl,hnd]at HDT;have hgx:w.heap.size+1≠X.g:=by have:=HMA.out.ok.g;simp only[MX.S]at this;omega
   have HGX:=G hgx;clear hsl hsg hnd hdl ha0 ha1 ha2 HRE HQ HL HC HI hab2 HAB hgx;by_cases hp:bc≠9/\bc≠10
   ·rw[if_pos hp]at hRE;obtain⟨hp9,hp10⟩:=hp;have q9:(bc !=9)=true:=by simpa using hp9
    have q10:(bc !=10)=true:=by simpa using hp10
    have HSY:=G (fun W (h:MA X C σj W) (h2:Sl W A5 c5 dl)=>show Calls prog 49 #[X.p, .int .i64 bc, .agg #[.int .i64 a0, .int .i64 a1, .int .i64 a2], .slice A5 nd c5] W (AS X C W (fW C.R σj bc a0 a1 a2 dl))from HND.out▸lS X C σj W h bc a0 a1 a2 dl A5 c5 h2 (by have:=HND.out;omega) HSG.out);simp only[MX.p]at HSY;rcases hs:fW C.R σj bc a0 a1 a2 dl with oc|⟨⟨r1,r2⟩,s2⟩
    ·rw[hs,ed]at hRE;have HER:=G hRE.symm;clear hRE;go_wp2_with (go_at_call 49;refine(HSY.out _ HB.out.q.ma HSL.out).mono ?_;intro e w2 h;rw[hs]at h;obtain⟨hg,he,hH⟩:=h;unfold iy at he;subst he;have HMx:=G (HX.out.trans (.ms_g HMA.out.ok hg));have HH:=G hH;clear hg hH HSY);exact⟨rfl,cZ HMx.out HER.out rfl HH.out⟩
    ·rw[hs,eh]at hRE;have HER:=G hRE.symm;clear hRE;go_wp2_with (go_at_call 49;refine(HSY.out _ HB.out.q.ma HSL.out).mono ?_;intro e w2 h;rw[hs]at h;obtain⟨hg,hA2,da,dc,rfl,hs2,_⟩:=h;have HMx:=G (HX.out.trans (.ms_g HMA.out.ok hg));have HA2:=G hA2;clear hg hA2 hs2 HSY);go_ret;exact ec HMx.out HER.out HA2.out
   rw[if_neg hp]at hRE;by_cases hbad:la<0\/(dl.length:Int)<la\/128<la
   ·rw[if_pos hbad]at hRE;have HER:=G hRE.symm;have HH:=G (HMA.out.halt 2);have hbb:bc=9\/bc=10:=by omega
    have hndl:(dl.length:Int)=nd:=by have:=HND.out;omega
    rw[hndl]at hbad;clear hRE hp hndl;by_cases hb1:la<0
    ·rcases hbb with rfl|rfl;all_goals
      go_wp2_with fail;exact⟨rfl,cZ HX.out HER.out rfl HH.out⟩
    ·by_cases hb2:(nd:Int)<la
     ·rcases hbb with rfl|rfl;all_goals
       go_wp2_with fail;exact⟨rfl,cZ HX.out HER.out rfl HH.out⟩
     ·have hb3:(128:Int)<la:=by omega
      rcases hbb with rfl|rfl;all_goals
       go_wp2_with fail;exact⟨rfl,cZ HX.out HER.out rfl HH.out⟩
   rw[if_neg hbad]at hRE;obtain⟨kk,rfl⟩:=cD (show 0<=la by omega);have hkn:kk<=nd:=by have:=HND.out;omega
   have hk128: ¬(128:Int)<(kk:Int):=by omega
   have hkn': ¬(nd:Int)<(kk:Int):=by omega
   have hkc:kk<=c5:=by omega
   have hk0: ¬(kk:Int)<0:=by omega
   simp only[cV]at hRE;have hbb:bc=9\/bc=10:=by omega
   clear hbad hp hla;rcases hbb with rfl|rfl
   ·rw[if_neg (by decide)]at hRE;have HSY:=G (fun W (h:MA X C σj W)=>show Calls prog 49 #[X.p, .int .i64 9, .agg #[.int .i64 a0, .int .i64 a1, .int .i64 a2], .slice none 0 0] W (AS X C W (fW C.R σj 9 a0 a1 a2 []))from lS X C σj W h 9 a0 a1 a2 [] none 0 (me W) (by simp) (fun b o e=>by cases e));simp only[MX.p]at HSY;have hdc:=yl HDT.out (H9d.out rfl);rcases hs:fW C.R σj 9 a0 a1 a2 []with oc|⟨⟨r1,r2⟩,s2⟩
    ·rw[hs,ed]at hRE;have HER:=G hRE.symm;clear hRE hdc;go_wp2_with (go_at_call 49;refine(HSY.out _ HMA.out).mono ?_;intro e w2 h;rw[hs]at h;obtain⟨hg,he,hH⟩:=h;unfold iy at he;subst he;have HMx:=G (HX.out.trans (.ms_g HMA.out.ok hg));have HH:=G hH;clear hg hH HSY);exact⟨rfl,cZ HMx.out HER.out rfl HH.out⟩
    ·rw[hs,eh]at hRE;have HER:=G hRE.symm;obtain⟨n5,hn5⟩: ∃x,r2.length=x:=⟨_,rfl⟩
     have HN5:=G hn5;clear hRE hn5;go_wp2_with (go_at_call 49;refine(HSY.out _ HMA.out).mono ?_;intro e w2 h;rw[hs]at h;obtain⟨hg,hA2,da,dc,he,hs2,_⟩:=h;rw[HN5.out]at he;subst he;have hE3:=O w2 (.cells #[.int .i64 r1, .slice da n5 dc] 80);have HM3:=G ((HX.out.trans (.ms_g HMA.out.ok hg)).trans (.of_ext hE3));have HA3:=G (hA2.ext hE3);have HS3:=G (hs2.ext hE3);have HB3:=G (an w2 80 #[.int .i64 r1, .slice da n5 dc]);have HTP:=G hA2.top;clear hg hA2 hs2 HSY hE3);refine az 5 1 [] mixed (by kernel_rfl) trivial ?_
     iterate 5 (refine sx ?_ (fun w1 hU=> ?_) ?_;rotate_left;(focus have f3:=(HB3.out.ext hU.un).cell;clear hU;go_simp<;>with_reducible rfl);simp only[aY,aX,aW,aV,aU])
     intro w7 hw7 _;simp only[ac,ap];have HM7:=G (HM3.out.trans (.of_ext hw7.un));have HA7:=G (HA3.out.ext hw7.un);have HS7:=G (HS3.out.ext hw7.un);have HB7:=G (HB3.out.ext hw7.un);clear hw7 HM3 HA3 HS3 HB3;rcases hdc with⟨rfl,rfl,rfl,hd0⟩|⟨nmq,rfl,rfl,hnq,hcq,hz⟩
     ·obtain rfl:kk=0:=by omega
      have HER2:=G (show Rv= .ok (kI r1,s2) by rw[HER.out,Db HA7.out hd0]);have f7:=HB7.out.cell;refine wpList_copy_nothing rfl _ _ _ _ rfl 5 underlying40 (by kernel_rfl) none da 0 0 n5 dc rfl rfl (Nat.min_zero _) ?_;go_wp2_with fail;go_ret;exact ec HM7.out HER2.out HA7.out
     ·have hnX:X.rb nmq≠w2.heap.size:=fun e=>by
       have h1:=HA7.out.len nmq;have h2:=(HA7.out.row nmq (fun e=>by rw[e]at h1;exact hz h1.symm)).2.1;have h3:=HX.out.size;have h4:=HMA.out.top;have h5:=HM7.out.size;have h6:=HTP.out;simp only[MX.S]at h2;omega
      have h1:=HA7.out.len nmq;have hrow:=(HA7.out.row nmq (fun e=>by rw[e]at h1;exact hz h1.symm)).1;subst hnq;refine pS bt rfl _ _ rfl (X.rb nmq) 0 kk c5 rfl (s2.arrs nmq) hrow da dc r2 (by rw[HN5.out];rfl) HS7.out (by omega) ?_;intro w8 k8 hm8 hg8;have HA8:=G (HA7.out.putD hz kk (by omega) r2 hg8 hm8);have HM8:=G (HM7.out.trans (.of_grown hg8 fun k e=>by injection e with e;subst e;exact(HA7.out.row nmq (fun e=>by rw[e]at h1;exact hz h1.symm)).2.1));have f7:=(HB7.out.grown hg8 (my (ff hnX))).cell;clear hm8 hg8 hrow h1;go_wp2_with fail;go_ret;exact ec HM8.out HER.out HA8.out
   ·rw[if_pos rfl]at hRE;have hk2:(dl.take kk).length=kk:=by rw[bE];have:=HND.out;omega
    have HSY:=G (fun W (h:MA X C σj W) (h2:Sl W A5 c5 dl)=>show Calls prog 49 #[X.p, .int .i64 10, .agg #[.int .i64 a0, .int .i64 0, .int .i64 0], .slice A5 kk c5] W (AS X C W (fW C.R σj 10 a0 0 0 (dl.take kk)))from by
     have:=lS X C σj W h 10 a0 0 0 (dl.take kk) A5 c5 (h2.take kk) (by omega) (fun b o e hne=>HSG.out b o e (fun e2=>hne (by rw[e2];simp)))
     rwa [hk2]at this)
    simp only[MX.p]at HSY;clear hk2;go_wp2_with fail;rcases hs:fW C.R σj 10 a0 0 0 (dl.take kk)with oc|⟨⟨r1,r2⟩,s2⟩
    ·rw[hs,ed]at hRE;have HER:=G hRE.symm;clear hRE;refine bR 11 8 [(8,fun x=>x= .agg #[.int .i64 0, .slice none 0 0],fun _ _=>False)] 8 (some X.g) mixed (by kernel_rfl) ⟨fun _ _ _ h _=>h,trivial⟩ ⟨.inl rfl,trivial⟩ ?_
     iterate 8 (refine sx ?_ (fun w1 hU=> ?_) ?_;rotate_left;(focus have fa:=(HAB2.out.grown (aB hU) (my HGX.out)).cell;clear hU;go_simp<;>with_reducible rfl);simp only[aY,aX,aW,aV,aU])
     refine bH _ _ (by rfl) rfl ⟨_,rfl⟩ rfl (fun w6 hT hp K hK=> ?_) ?_
     ·clear hp;have hc:=HSY.out w6 (HMA.out.ext hT.un) (HSL.out.ext hT.un);rw[hs]at hc;have HM6:=G (HX.out.trans (.of_ext hT.un));clear hT;go_simp;refine hc.mono ?_;intro e w7 h;obtain⟨hg,he,hH⟩:=h;unfold iy at he;subst he;intro a' hd;exact⟨hd,cZ (HM6.out.trans (.ms_g HMA.out.ok hg)) HER.out rfl hH⟩
     rintro _ rfl;simp only[aY,aX,aW,aV,aU]
     iterate 2 (refine sx ?_ (fun w1 hU=> ?_) ?_;rotate_left;(focus clear hU;go_simp<;>with_reducible rfl);simp only[aY,aX,aW,aV,aU])
     intro w8 hw8 hp;exact(hp _ (.head _)).elim
    ·rw[hs,eh]at hRE;have HER:=G hRE.symm;clear hRE;refine bR 11 8 [(8,fun x=> ∃(da:Option Addr) (n5 dc:Nat),x= .agg #[.int .i64 r1, .slice da n5 dc],fun _ W=>MA X C s2 W)] 8 (some X.g) mixed (by kernel_rfl) ⟨fun _ _ _ h hE=>h.ext hE,trivial⟩ ⟨.inl rfl,trivial⟩ ?_
     iterate 8 (refine sx ?_ (fun w1 hU=> ?_) ?_;rotate_left;(focus have fa:=(HAB2.out.grown (aB hU) (my HGX.out)).cell;clear hU;go_simp<;>with_reducible rfl);simp only[aY,aX,aW,aV,aU])
     refine bH _ _ (by rfl) rfl ⟨_,none,0,0,rfl⟩ rfl (fun w6 hT hp K hK=> ?_) ?_
     ·clear hp;have hc:=HSY.out w6 (HMA.out.ext hT.un) (HSL.out.ext hT.un);rw[hs]at hc;clear hT;go_simp;refine hc.mono ?_;intro e w7 h;obtain⟨hg,hA2,da,dc,rfl,hs2,_⟩:=h;exact hK _ _ hg ⟨da,_,dc,rfl⟩ hA2
     rintro _ ⟨da,n5,dc,rfl⟩;simp only[aY,aX,aW,aV,aU]
     iterate 2 (refine sx ?_ (fun w1 hU=> ?_) ?_;rotate_left;(focus clear hU;go_simp<;>with_reducible rfl);simp only[aY,aX,aW,aV,aU])
     intro w8 hw8 hp;have HM8:=G (HX.out.trans (.ms_g HMA.out.ok (aB hw8)));have HA8:=G (hp _ (.head _));clear hw8 hp;simp only[ac,ap];go_wp2_with fail;go_ret;exact ec HM8.out HER.out HA8.out
end
section
open Go.RowKit
theorem ob (X:MX) (C:Cx) (n:Nat) (hS:EI X C n):Et X C n:=by
 intro xs hsf hw σ l fb lb w A c hA hF hn hR;have hok:=hA.ok;have hlen:=dz xs;have HS:=G (fun y (hy:y∈xs)=>hS y (zr hsf y hy) (by have:=bS hy;omega));have HR:=G hR;have HOK:=G hok;have HA0:=G hA;have HF0:=G hF;obtain⟨N,hN⟩: ∃N,xs.length=N:=⟨_,rfl⟩
 have HN:=G hN;rw[hN]at HR hlen⊢;have hNb:N<=1073741824:=by omega
 obtain⟨Rv,hRv⟩: ∃R,mh (fun s l y=>st C n s l y) σ l xs=R:=⟨_,rfl⟩
 have HQ0:=G (show mh (fun s l y=>st C n s l y) σ l (xs.drop 0)=Rv from hRv);have HX0:=G (iK (X.T fb lb) w);have HN0:=G hn;rw[hRv];clear hA hF hR hRv hN hok hS hsf hlen hn hw;simp only[MX.p]at*;go_enter func86,ntmps86;go_wp2_with fail
 go_loopw [10] (fun vi wr=> ∃(j:Nat) (σj:Ms) (lj:Lo),vi= .int .i64 (j:Int)/\j<=N/\Hid (2*σj.left<=n)/\Hid (mh (fun s l y=>st C n s l y) σj lj (xs.drop j)=Rv)/\Hid (Mv (X.T fb lb) w wr)/\Hid (MA X C σj wr)/\Hid (FI X fb lb lj none wr)) (fun vi _=>N-(intOf vi).toNat)
 case atStart=>exact⟨0,σ,l,rfl,aG _,HN0,HQ0,HX0,HA0,HF0⟩
 case round=>
  obtain⟨j,σj,lj,rfl,hj,HNj,HQ,HX,HAj,HFj⟩:=hrel;by_cases hlt:j<N
  ·have hlt':(j:Int)<N:=by omega
   have hjl:j<xs.length:=by have:=HN.out;omega
   obtain⟨b,o,e,bv,lv,rfl,hb,hPb,h0,h1,h2,h3,h4,hRe,hRb,hRl⟩:=HR.out.at_ j hjl;have hS1:=wW (S:=fun s l y=>st C n s l y) (s:=σj) (l:=lj) hjl;have hSy:=HS.out _ (au hjl);obtain⟨y,hy⟩: ∃y,xs[j]=y:=⟨_,rfl⟩
   rw[hy]at h0 h1 hRe hRb hRl hS1 hSy;clear hy;obtain⟨k,nm,ex,bd,el⟩:=y;unfold Es at hSy;simp only[St.k,St.nm,St.ex,St.body,St.els]at h0 h1 hRe hRb hRl hSy;have hKP:cC X.P w wr:=HX.out.keepP fun k hk _=>MX.T_P HF0.out.f HF0.out.l HOK.out hk;have e0:=(hKP.cell _ hPb hb).trans h0;have e1:=(hKP.cell _ hPb hb).trans h1;have e2:=(hKP.cell _ hPb hb).trans h2;have e3:=(hKP.cell _ hPb hb).trans h3;have e4:=(hKP.cell _ hPb hb).trans h4;obtain⟨A1,c1,rfl,_⟩:=hRe.form;obtain⟨A2,c2,rfl,_⟩:=hRb.form;obtain⟨A3,c3,rfl,_⟩:=hRl.form;have hAl:=O wr (.cells #[.int .i64 k, .string (ai nm), .slice A1 ex.length c1, .slice A2 bd.length c2, .slice A3 el.length c3] 72);have HC:=G (hSy σj lj fb lb _ A1 A2 A3 c1 c2 c3 (HAj.out.ext hAl) (HFj.out.ext hAl) HNj.out ((hRe.keep hKP (Q:=X.P) fun b hb _=>hb).xt hAl) ((hRb.keep hKP (Q:=X.P) fun b hb _=>hb).xt hAl) ((hRl.keep hKP (Q:=X.P) fun b hb _=>hb).xt hAl));have HM0:=G (HX.out.alloc (.cells #[.int .i64 k, .string (ai nm), .slice A1 ex.length c1, .slice A2 bd.length c2, .slice A3 el.length c3] 72));have HFI:=G (ax HFj.out.f HFj.out.l);clear h0 h1 h2 h3 h4 hRe hRb hRl hSy hAl hKP HR HS HX HAj HFj;simp only[MX.p]at HC;rcases hr:st C n σj lj (.mk k nm ex bd el)with oc|⟨⟨rt,l2⟩,s2⟩
   ·rw[hr]at hS1 HC;rw[ed]at hS1;have HE:=G (HQ.out.symm.trans hS1);clear hS1 hr HQ;go_wp2_with (go_at_call 130;refine HC.out.mono ?_;intro e w2 h;obtain⟨hM,rfl,hH⟩:=h.err_;have HM:=G (HM0.out.trans hM);have HH:=G hH;clear hM hH h HC HM0);exact⟨rfl,cT HM.out HE.out rfl HH.out⟩
   ·have hlf:=zo hr;rw[hr]at hS1 HC;rw[eh]at hS1
    cases rt with
    |some v=>
     have HE:=G (HQ.out.symm.trans hS1);clear hS1 hr HQ;go_wp2_with (go_at_call 130;refine HC.out.mono ?_;intro e w2 h;obtain⟨hM,rfl,hA2,hF2⟩:=h.ok_;have HM:=G (HM0.out.trans hM);have HA2:=G hA2;have HF2:=G hF2;have fk:=hF2.blk.cell;simp only[gG,cF,bx]at fk;clear hM hA2 hF2 h HC HM0);exact bodyPost_ret (results_none rfl _ _ _) rfl (gE HM.out HE.out HA2.out HF2.out)
    |none=>
     have HE:=G (hS1.symm.trans HQ.out);have HNx:=G (show 2*s2.left<=n by have:=HNj.out;omega);clear hS1 hr HQ;go_wp2_with (go_at_call 130;refine HC.out.mono ?_;intro e w2 h;obtain⟨hM,rfl,hA2,hF2⟩:=h.ok_;have HM:=G (HM0.out.trans hM);have HA2:=G hA2;have HF2:=G hF2;have fk:=hF2.blk.cell;simp only[gG,cQ,dL]at fk;clear hM hA2 hF2 h HC HM0);go_roundw
     case rel=>exact⟨j+1,s2,l2,by go_num,by omega,HNx,HE,HM,HA2,G ⟨HF2.out,HFI.out.1,HFI.out.2⟩⟩
     case measure=>simp[intOf];omega
  ·have hlt': ¬(j:Int)<N:=by omega
   have HE:=G (show Rv= .ok ((none,lj),σj) by
    have:=HQ.out;rw[aF (by have:=HN.out;omega),mh]at this
    exact this.symm)
   go_wp2_with fail;exact bodyPost_end (results_none rfl _ _ _) rfl (gE HX.out HE.out HAj.out HFj.out.fr)
end
section
open Go.RowKit
structure TQ (X:MX) (C:Cx) (σ:Ms) (l:Lo) (ret:Option Int) (fb lb:Nat) (w:World) (cs:Array Value) (ve vb vl:Value) (ex:List Ex) (bd el:List St) (W:World):Prop where
 mv:Mv (X.T fb lb) w W
 ma:MA X C σ W
 fi:FI X fb lb l ret W
 b0:aL W w.heap.size 122 #[X.p]
 b1:aL W (w.heap.size+1) 180 #[.pointer (some ⟨fb,0,none⟩)]
 b2:aL W (w.heap.size+1+1) 72 cs
 re:cE W X.P ve ex
 rb:cR W X.P vb bd
 rl:cR W X.P vl el
 lf:fb<w.heap.size
 ll:lb<w.heap.size
 hw:X.hi<=w.heap.size
section
variable {X:MX} {C:Cx} {σ σ':Ms} {l l':Lo} {ret ret':Option Int} {fb lb:Nat} {w W W':World} {cs:Array Value} {ve vb vl:Value} {ex:List Ex} {bd el:List St}
theorem TQ.mt (h:TQ X C σ l ret fb lb w cs ve vb vl ex bd el W) (hM:Mv (X.T fb lb) W W') (hA:MA X C σ' W') (hF:FR fb lb l' ret' W'):TQ X C σ' l' ret' fb lb w cs ve vb vl ex bd el W':=by
 have hw:=h.hw;have lf:=h.lf;have ll:=h.ll;have hn: ∀k,w.heap.size<=k-> ¬X.T fb lb k:=fun k hk e=>by
  simp only[MX.T,MX.S]at e;omega
 exact⟨h.mv.trans hM,hA,⟨hF,h.fi.f,h.fi.l⟩,hM.blk h.b0 (hn _ (ah _)),hM.blk h.b1 (hn _ (by omega)),hM.blk h.b2 (hn _ (by omega)),h.re.mt h.fi h.ma.ok hM,h.rb.mt h.fi h.ma.ok hM,h.rl.mt h.fi h.ma.ok hM,lf,ll,hw⟩
theorem TQ.ms (h:TQ X C σ l ret fb lb w cs ve vb vl ex bd el W) (hM:Mv X.S W W') (hA:MA X C σ' W'):TQ X C σ' l ret fb lb w cs ve vb vl ex bd el W':=h.mt (hM.mono fun k _ h=> .inl h) hA (h.fi.ms hM).fr
theorem TQ.ext (h:TQ X C σ l ret fb lb w cs ve vb vl ex bd el W) (hE:aq W W'):TQ X C σ l ret fb lb w cs ve vb vl ex bd el W':=h.ms (.of_ext hE) (h.ma.ext hE)
theorem jo (hA:MA X C σ w) (hF:FI X fb lb l ret w) (h1:cE w X.P ve ex) (h2:cR w X.P vb bd) (h3:cR w X.P vl el) (cs:Array Value):
  TQ X C σ l ret fb lb w cs ve vb vl ex bd el (((w.alloc (.cells #[X.p] 122)).alloc (.cells #[.pointer (some ⟨fb,0,none⟩)] 180)).alloc (.cells cs 72)):=by
 have e1:=O w (.cells #[X.p] 122);have e2:=O (w.alloc (.cells #[X.p] 122)) (.cells #[.pointer (some ⟨fb,0,none⟩)] 180);have e3:=O ((w.alloc (.cells #[X.p] 122)).alloc (.cells #[.pointer (some ⟨fb,0,none⟩)] 180)) (.cells cs 72);have he:=(e1.trans e2).trans e3;have b1:=(an (w.alloc (.cells #[X.p] 122)) 180 #[.pointer (some ⟨fb,0,none⟩)]).ext e3;have b2:=an ((w.alloc (.cells #[X.p] 122)).alloc (.cells #[.pointer (some ⟨fb,0,none⟩)] 180)) 72 cs;rw[World.size_alloc]at b1;rw[World.size_alloc,World.size_alloc]at b2;exact⟨.of_ext he,hA.ext he,hF.ext he,((an w _ _).ext e2).ext e3,b1,b2,h1.xt he,h2.xt he,h3.xt he,hF.fr.blk.lt,hF.fr.m.lt,hA.top⟩
structure y8 (X:MX) (C:Cx) (σ:Ms) (l:Lo) (fb lb pm pf ps:Nat) (cs:Array Value) (ve:Value) (ex:List Ex) (W:World):Prop where
 ma:MA X C σ W
 fi:FI X fb lb l none W
 b0:aL W pm 122 #[X.p]
 b1:aL W pf 180 #[.pointer (some ⟨fb,0,none⟩)]
 b2:aL W ps 72 cs
 re:cE W X.P ve ex
theorem TQ.vq (h:TQ X C σ l none fb lb w cs ve vb vl ex bd el W):y8 X C σ l fb lb w.heap.size (w.heap.size+1) (w.heap.size+1+1) cs ve ex W:=⟨h.ma,h.fi,h.b0,h.b1,h.b2,h.re⟩
end
theorem za (C:Cx) (n:Nat) (s:Ms) (l:Lo):val C n s l []= .ok (0,s):=rfl
theorem ww (C:Cx) (n:Nat) (s:Ms) (l:Lo) (x:Ex) (r:List Ex):val C n s l (x::r)=ev C n s l x:=rfl
theorem gy (X:MX) (C:Cx) (n:Nat) (k:Int) (nm:List UInt8) (ex:List Ex) (hV: ∀y∈ex,m7 X C n y) (σ:Ms) (l:Lo) (fb lb pm pf ps:Nat) (A:Option Addr) (N c:Nat) (vb vl:Value) (w:World) (hQ:y8 X C σ l fb lb pm pf ps #[.int .i64 k, .string (ai nm), .slice A N c,vb,vl] (.slice A N c) ex w) (hn:2*σ.left<=n):
  Calls prog 163 #[.pointer (some ⟨ps,0,none⟩), .pointer (some ⟨pm,0,none⟩), .pointer (some ⟨pf,0,none⟩)] w (tw X C w (val C n σ l ex)):=by
 have hlen:N=ex.length:=by obtain⟨A',c',e,_⟩:=hQ.re.form;injection e
 have HX:=G (iK X.S w)
 cases ex with
 |nil=>
  simp only[ag]at hlen;subst hlen;have f2:=hQ.b2.cell;have HA:=G hQ.ma;clear hQ;go_enter func163,ntmps163;go_wp2_with fail;go_ret;exact ec HX.out (za C n σ l) HA.out
 |cons y r=>
  have hN0:0<N:=by rw[hlen];simp
  have hN0':(0:Int)<(N:Int):=by omega
  have hN1:((N:Int)==0)=false:=by simp;omega
  obtain⟨b,o,B,d,hAq,hb,hPb,hY,hRy⟩:=hQ.re.yc 0 (by simp);subst hAq;simp only[aE,a8,br]at hY hRy;have hy:=hV y (by simp);obtain⟨k2,op2,nm2,tx2,v2,as2⟩:=y;unfold m7 at hy;simp only[Ex.k,Ex.op,Ex.nm,Ex.tx,Ex.v,Ex.args]at hY hRy hy;have HY:=G hY;have HRy:=G hRy;have HV:=G hy;have HQ:=G hQ;have f2:=hQ.b2.cell;clear hQ hY hRy hy hV hlen;rw[ww];generalize hr:ev C n σ l (Ex.mk k2 op2 nm2 tx2 v2 as2)=Rv at*;simp only[MX.p]at HV;have HP:=G (fun W (hE:aq w W)=>HV.out σ l fb lb W B d (HQ.out.ma.ext hE) (HQ.out.fi.ext hE) hn (HRy.out.xt hE));rw[hr]at HP;clear HV HRy hr;go_enter func163,ntmps163;go_wp2_with fail;refine az 6 1 [] mixed (by kernel_rfl) trivial ?_;repeat (refine sx ?_ (fun w1 hU=> ?_) ?_;rotate_left;(focus have f0:=(HQ.out.b0.ext hU.un).cell;have f1:=(HQ.out.b1.ext hU.un).cell;have f2:=(HQ.out.b2.ext hU.un).cell;obtain⟨e0,e1,e2,e3,e4,e5⟩:=HY.out.kp (.of_ext (P:=fun _=>True) hU.un) trivial hb;clear hU;go_simp<;>with_reducible rfl);simp only[aY,aX,aW,aV,aU])
  intro w7 hw7 _;simp only[ac,ap];have HE7:=G hw7.un;clear hw7 f2;rcases Rv with oc|⟨v,s1⟩
  ·go_wp2_with (go_at_call 164;refine(HP.out _ HE7.out).mono ?_;intro e w8 h;obtain⟨hM,rfl,hH⟩:=h.err_;have HM:=G ((Mv.of_ext HE7.out).trans hM);have HH:=G hH;clear hM hH h HP);exact⟨rfl,cZ HM.out rfl rfl HH.out⟩
  ·go_wp2_with (go_at_call 164;refine(HP.out _ HE7.out).mono ?_;intro e w8 h;obtain⟨hM,rfl,hA⟩:=h.ok_;have HM:=G ((Mv.of_ext HE7.out).trans hM);have HA:=G hA;clear hM hA h HP);go_ret;exact ec HM.out rfl HA.out
end
section
open Go.RowKit
section
variable {X:MX} {C:Cx} {σ σ':Ms} {l l':Lo} {ret ret':Option Int} {fb lb:Nat} {w W W':World} {cs:Array Value} {ve vb vl:Value} {ex:List Ex} {bd el:List St}
theorem TQ.cl (h:TQ X C σ l ret fb lb w cs ve vb vl ex bd el W) (hM:Mv X.S W W'):aL W' w.heap.size 122 #[X.p]/\aL W' (w.heap.size+1) 180 #[.pointer (some ⟨fb,0,none⟩)]/\aL W' (w.heap.size+1+1) 72 cs/\aL W' fb 182 (gG lb ret):=by
 have hw:=h.hw;exact⟨hM.blk h.b0 (gS hw),hM.blk h.b1 (gS (by omega)),hM.blk h.b2 (gS (by omega)),hM.blk h.fi.fr.blk (gS h.fi.f)⟩
theorem TQ.lset {nm:List UInt8} {v:Int} (h:TQ X C σ l ret fb lb w cs ve vb vl ex bd el W) (hv:eO v) (hm:bM W' lb ((xS l).upd nm (.int .i32 v))) (hg:W.grownBy W' (some lb)):TQ X C σ (l.upd nm v) ret fb lb w cs ve vb vl ex bd el W':=
 have hM:Mv (fun k=>k=lb) W W':= .of_grown hg fun k e=>by injection e with e;exact e.symm
 h.mt (hM.mono fun k _ e=> .inr (.inr e)) (h.ma.mv hM fun k hk e=>by have:=h.fi.l;omega) (h.fi.fr.upd hv hm hg)
end
def rT (X:MX) (C:Cx) (n:Nat) (x:St):Prop:= ∀(σ:Ms) (l:Lo) (fb lb:Nat) (w:World) (A1 A2 A3:Option Addr) (c1 c2 c3:Nat),MA X C σ w->FI X fb lb l none w->σ.left≠0->2*σ.left<=n+1->
 cE w X.P (.slice A1 x.ex.length c1) x.ex->cR w X.P (.slice A2 x.body.length c2) x.body->cR w X.P (.slice A3 x.els.length c3) x.els->
 Calls prog 130 #[X.p, .pointer (some ⟨fb,0,none⟩), .agg #[.int .i64 x.k, .string (ai x.nm), .slice A1 x.ex.length c1, .slice A2 x.body.length c2, .slice A3 x.els.length c3]] w (yP X C fb lb w (st C (n+1) σ l x))
theorem ua (X:MX) (C:Cx) (n:Nat) (x:St) (σ:Ms) (l:Lo) (fb lb:Nat) (w:World) (A1 A2 A3:Option Addr) (c1 c2 c3:Nat) (hA:MA X C σ w) (hF:FI X fb lb l none w) (hl:σ.left=0)
  (hRe:cE w X.P (.slice A1 x.ex.length c1) x.ex) (hRb:cR w X.P (.slice A2 x.body.length c2) x.body) (hRl:cR w X.P (.slice A3 x.els.length c3) x.els):
  Calls prog 130 #[X.p, .pointer (some ⟨fb,0,none⟩), .agg #[.int .i64 x.k, .string (ai x.nm), .slice A1 x.ex.length c1, .slice A2 x.body.length c2, .slice A3 x.els.length c3]] w (yP X C fb lb w (st C n σ l x)):=by
 have HE:=G (show st C n σ l x= .error σ.long by cases n with|zero=>rw[st]|succ n=>rw[st,if_pos hl]);obtain⟨k,nm,ex,bd,el⟩:=x;simp only[St.k,St.nm,St.ex,St.body,St.els]at hRe hRb hRl⊢;have HQ0:=G (jo hA hF hRe hRb hRl #[.int .i64 k, .string (ai nm), .slice A1 ex.length c1, .slice A2 bd.length c2, .slice A3 el.length c3]);have HS:=G (ub HQ0.out.ma hl);have f0:=HQ0.out.b0.cell;clear hA hF hRe hRb hRl;simp only[MX.p]at*;go_enter func130,ntmps130;go_wp2_with (go_at_call 162;refine HS.out.mono ?_;rintro e w1 ⟨rfl,hM,hH⟩;have HM1:=G (HQ0.out.mv.trans (hM.mono fun k _ h=> .inl h));have HH:=G hH;clear hM hH);exact⟨rfl,cT HM1.out HE.out rfl HH.out⟩
theorem z' (X:MX) (C:Cx) (n:Nat) (nm:List UInt8) (ex:List Ex) (bd el:List St) (hnm:nm.length<=1073741824) (hEx: ∀y∈ex,m7 X C n y):rT X C n (.mk 1 nm ex bd el):=by
 intro σ l fb lb w A1 A2 A3 c1 c2 c3 hA hF hl hn hRe hRb hRl;simp only[St.k,St.nm,St.ex,St.body,St.els]at hRe hRb hRl⊢;have hn1:2*σ.step.left<=n:=by show 2*(σ.left-1)<=n;omega
 have HQ0:=G (jo hA hF hRe hRb hRl #[.int .i64 1, .string (ai nm), .slice A1 ex.length c1, .slice A2 bd.length c2, .slice A3 el.length c3]);have HS:=G (eR HQ0.out.ma hl);have HVL:=G (fun W (h:y8 X C σ.step l fb lb w.heap.size (w.heap.size+1) (w.heap.size+1+1) #[.int .i64 1, .string (ai nm), .slice A1 ex.length c1, .slice A2 bd.length c2, .slice A3 el.length c3] (.slice A1 ex.length c1) ex W)=>gy X C n 1 nm ex hEx σ.step l fb lb w.heap.size (w.heap.size+1) (w.heap.size+1+1) A1 ex.length c1 (.slice A2 bd.length c2) (.slice A3 el.length c3) W h hn1);have hmf: ∀(fn:Fn) (first cap:Array Value) (w:World),(Instr.makeFunc fn first cap).run prog w= .ok (.func fn first cap) w:=fun _ _ _ _=>rfl;have hE:=C4 (C:=C) (n:=n) (l:=l) (nm:=nm) (e:=ex) (b:=bd) (c:=el) hl;have f0:=HQ0.out.b0.cell;have hrg:j0 σ.step:=fun x=>hA.rng x;have hlo:=hF.fr.rng;clear hA hF hRe hRb hRl;simp only[MX.p]at*;rcases hr:val C n σ.step l ex with oc|⟨v,s1⟩
 ·rw[hr,ed]at hE;have HE:=G hE;clear hE;go_enter func130,ntmps130;go_wp2_with (go_at_call 162;refine HS.out.mono ?_;rintro e w1 ⟨rfl,hM,hA1⟩;have HQ1:=G (HQ0.out.ms hM hA1);clear f0;have f0:=HQ1.out.b0.cell;have f1:=HQ1.out.b1.cell;have f2:=HQ1.out.b2.cell;have fk:=HQ1.out.fi.fr.blk.cell;clear hM hA1 HS HQ0);clear f0 f1 f2 fk;refine d7 X.S 8 8 [(7,fun x=>x= .int .i32 0,fun _ _=>False)] 7 mixed (by kernel_rfl) ⟨fun _ _ _ h _=>h,trivial⟩ ⟨.inl rfl,trivial⟩ ?_;repeat (refine sx ?_ (fun w1 hU=> ?_) ?_;rotate_left;(focus obtain⟨q0,q1,q2,q3⟩:=HQ1.out.cl hU.un;have f0:=q0.cell;have f1:=q1.cell;have f2:=q2.cell;have fk:=q3.cell;clear hU q0 q1 q2 q3;go_simp<;>with_reducible rfl);simp only[aY,aX,aW,aV,aU])
  refine bH _ _ (by rfl) rfl ⟨_,rfl⟩ rfl (fun w6 hT hp K hK=> ?_) ?_
  ·clear hp;have hc:=HVL.out w6 (HQ1.out.ext hT.un).vq;rw[hr]at hc;have HM6:=G (HQ1.out.mv.trans (.of_ext hT.un));clear hT;go_simp;refine hc.mono ?_;intro e w7 h;obtain⟨hM,rfl,hH⟩:=h.err_;intro a' hd;exact⟨hd,cT (HM6.out.trans (hM.mono fun k _ h=> .inl h)) HE.out rfl hH⟩
  rintro _ rfl;simp only[aY,aX,aW,aV,aU];intro w8 hw8 hp;exact(hp _ (.head _)).elim
 ·rw[hr,eh]at hE;have HE:=G hE;have hv:=pT hr hrg hlo;clear hE;go_enter func130,ntmps130;go_wp2_with (go_at_call 162;refine HS.out.mono ?_;rintro e w1 ⟨rfl,hM,hA1⟩;have HQ1:=G (HQ0.out.ms hM hA1);clear f0;have f0:=HQ1.out.b0.cell;have f1:=HQ1.out.b1.cell;have f2:=HQ1.out.b2.cell;have fk:=HQ1.out.fi.fr.blk.cell;clear hM hA1 HS HQ0);clear f0 f1 f2 fk;refine d7 X.S 8 8 [(7,fun x=>x= .int .i32 v,fun _ W=>MA X C s1 W)] 7 mixed (by kernel_rfl) ⟨fun _ _ _ h hE=>h.ext hE,trivial⟩ ⟨.inl rfl,trivial⟩ ?_;repeat (refine sx ?_ (fun w1 hU=> ?_) ?_;rotate_left;(focus obtain⟨q0,q1,q2,q3⟩:=HQ1.out.cl hU.un;have f0:=q0.cell;have f1:=q1.cell;have f2:=q2.cell;have fk:=q3.cell;clear hU q0 q1 q2 q3;go_simp<;>with_reducible rfl);simp only[aY,aX,aW,aV,aU])
  refine bH _ _ (by rfl) rfl ⟨_,rfl⟩ rfl (fun w6 hT hp K hK=> ?_) ?_
  ·clear hp;have hc:=HVL.out w6 (HQ1.out.ext hT.un).vq;rw[hr]at hc;clear hT;go_simp;refine hc.mono ?_;intro e w7 h;obtain⟨hM,rfl,hA⟩:=h.ok_;exact hK _ _ hM rfl hA
  rintro _ rfl;simp only[aY,aX,aW,aV,aU];intro w8 hw8 hp;have HQ2:=G (HQ1.out.ms hw8 (hp _ (.head _)));clear hw8 hp HVL HQ1;have f0:=HQ2.out.b0.cell;have f1:=HQ2.out.b1.cell;have f2:=HQ2.out.b2.cell;have fk:=HQ2.out.fi.fr.blk.cell;simp only[ac,ap];go_wp2_with (at_mapUpdate;refine cB B5 rfl _ _ _ rfl HQ2.out.fi.fr.m rfl (by unfold maxLen;omega) rfl _ rfl ?_;intro w9 hm9 hg9;have HQ3:=G (HQ2.out.lset hv hm9 hg9);clear hm9 hg9);exact bodyPost_end (results_none rfl _ _ _) rfl (gE HQ3.out.mv HE.out HQ3.out.ma HQ3.out.fi.fr)
theorem z_ (X:MX) (C:Cx) (n:Nat) (nm:List UInt8) (ex:List Ex) (bd el:List St) (hnm:nm.length<=1073741824) (hEx: ∀y∈ex,m7 X C n y):rT X C n (.mk 2 nm ex bd el):=by
 intro σ l fb lb w A1 A2 A3 c1 c2 c3 hA hF hl hn hRe hRb hRl;simp only[St.k,St.nm,St.ex,St.body,St.els]at hRe hRb hRl⊢;have hn1:2*σ.step.left<=n:=by show 2*(σ.left-1)<=n;omega
 have HQ0:=G (jo hA hF hRe hRb hRl #[.int .i64 2, .string (ai nm), .slice A1 ex.length c1, .slice A2 bd.length c2, .slice A3 el.length c3]);have HS:=G (eR HQ0.out.ma hl);have HVL:=G (fun W (h:y8 X C σ.step l fb lb w.heap.size (w.heap.size+1) (w.heap.size+1+1) #[.int .i64 2, .string (ai nm), .slice A1 ex.length c1, .slice A2 bd.length c2, .slice A3 el.length c3] (.slice A1 ex.length c1) ex W)=>gy X C n 2 nm ex hEx σ.step l fb lb w.heap.size (w.heap.size+1) (w.heap.size+1+1) A1 ex.length c1 (.slice A2 bd.length c2) (.slice A3 el.length c3) W h hn1);have hmf: ∀(fn:Fn) (first cap:Array Value) (w:World),(Instr.makeFunc fn first cap).run prog w= .ok (.func fn first cap) w:=fun _ _ _ _=>rfl;have hE:=C1 (C:=C) (n:=n) (l:=l) (nm:=nm) (e:=ex) (b:=bd) (c:=el) hl;have f0:=HQ0.out.b0.cell;have hrg:j0 σ.step:=fun x=>hA.rng x;have hlo:=hF.fr.rng;clear hA hF hRe hRb hRl;simp only[MX.p]at*;rcases hr:val C n σ.step l ex with oc|⟨v,s1⟩
 ·rw[hr,ed]at hE;have HE:=G hE;clear hE;go_enter func130,ntmps130;go_wp2_with (go_at_call 162;refine HS.out.mono ?_;rintro e w1 ⟨rfl,hM,hA1⟩;have HQ1:=G (HQ0.out.ms hM hA1);clear f0;have f0:=HQ1.out.b0.cell;have f1:=HQ1.out.b1.cell;have f2:=HQ1.out.b2.cell;have fk:=HQ1.out.fi.fr.blk.cell;clear hM hA1 HS HQ0);clear f0 f1 f2 fk;refine d7 X.S 6 8 [(5,fun x=>x= .int .i32 0,fun _ _=>False)] 5 mixed (by kernel_rfl) ⟨fun _ _ _ h _=>h,trivial⟩ ⟨.inl rfl,trivial⟩ ?_;repeat (refine sx ?_ (fun w1 hU=> ?_) ?_;rotate_left;(focus obtain⟨q0,q1,q2,q3⟩:=HQ1.out.cl hU.un;have f0:=q0.cell;have f1:=q1.cell;have f2:=q2.cell;have fk:=q3.cell;clear hU q0 q1 q2 q3;go_simp<;>with_reducible rfl);simp only[aY,aX,aW,aV,aU])
  refine bH _ _ (by rfl) rfl ⟨_,rfl⟩ rfl (fun w6 hT hp K hK=> ?_) ?_
  ·clear hp;have hc:=HVL.out w6 (HQ1.out.ext hT.un).vq;rw[hr]at hc;have HM6:=G (HQ1.out.mv.trans (.of_ext hT.un));clear hT;go_simp;refine hc.mono ?_;intro e w7 h;obtain⟨hM,rfl,hH⟩:=h.err_;intro a' hd;exact⟨hd,cT (HM6.out.trans (hM.mono fun k _ h=> .inl h)) HE.out rfl hH⟩
  rintro _ rfl;simp only[aY,aX,aW,aV,aU];intro w8 hw8 hp;exact(hp _ (.head _)).elim
 ·rw[hr,eh]at hE;have hv:=pT hr hrg hlo
  cases hs:(l nm).isSome with
  |true=>
   rw[if_pos hs]at hE;have HE:=G hE;clear hE;go_enter func130,ntmps130;go_wp2_with (go_at_call 162;refine HS.out.mono ?_;rintro e w1 ⟨rfl,hM,hA1⟩;have HQ1:=G (HQ0.out.ms hM hA1);clear f0;have f0:=HQ1.out.b0.cell;have f1:=HQ1.out.b1.cell;have f2:=HQ1.out.b2.cell;have fk:=HQ1.out.fi.fr.blk.cell;clear hM hA1 HS HQ0);clear f0 f1 f2 fk;refine d7 X.S 6 8 [(5,fun x=>x= .int .i32 v,fun _ W=>MA X C s1 W)] 5 mixed (by kernel_rfl) ⟨fun _ _ _ h hE=>h.ext hE,trivial⟩ ⟨.inl rfl,trivial⟩ ?_;repeat (refine sx ?_ (fun w1 hU=> ?_) ?_;rotate_left;(focus obtain⟨q0,q1,q2,q3⟩:=HQ1.out.cl hU.un;have f0:=q0.cell;have f1:=q1.cell;have f2:=q2.cell;have fk:=q3.cell;clear hU q0 q1 q2 q3;go_simp<;>with_reducible rfl);simp only[aY,aX,aW,aV,aU])
   refine bH _ _ (by rfl) rfl ⟨_,rfl⟩ rfl (fun w6 hT hp K hK=> ?_) ?_
   ·clear hp;have hc:=HVL.out w6 (HQ1.out.ext hT.un).vq;rw[hr]at hc;clear hT;go_simp;refine hc.mono ?_;intro e w7 h;obtain⟨hM,rfl,hA⟩:=h.ok_;exact hK _ _ hM rfl hA
   rintro _ rfl;simp only[aY,aX,aW,aV,aU];intro w8 hw8 hp;have HQ2:=G (HQ1.out.ms hw8 (hp _ (.head _)));clear hw8 hp HVL HQ1;have f0:=HQ2.out.b0.cell;have f1:=HQ2.out.b1.cell;have f2:=HQ2.out.b2.cell;have fk:=HQ2.out.fi.fr.blk.cell;simp only[ac,ap];go_wp2_with (go_at_call 165;refine(oC X C s1 _ HQ2.out.ma fb lb l none HQ2.out.fi.fr ⟨HQ2.out.fi.f,HQ2.out.fi.l⟩ nm hnm v hv).mono ?_;unfold DH;rw[hs];rintro e w9 ⟨rfl,hM,hR⟩;rw[if_pos rfl]at hR;have HQ3:=G (HQ2.out.mt (hM.mono fun k _ h=>h.elim (fun e=> .inr (.inr e)) fun e=> .inl (e▸HQ2.out.ma.ok.i)) hR.1 hR.2);clear hM hR);exact bodyPost_end (results_none rfl _ _ _) rfl (gE HQ3.out.mv HE.out HQ3.out.ma HQ3.out.fi.fr)
  |false=>
   rw[if_neg (by rw[hs];decide)]at hE;have HE:=G hE;clear hE;go_enter func130,ntmps130;go_wp2_with (go_at_call 162;refine HS.out.mono ?_;rintro e w1 ⟨rfl,hM,hA1⟩;have HQ1:=G (HQ0.out.ms hM hA1);clear f0;have f0:=HQ1.out.b0.cell;have f1:=HQ1.out.b1.cell;have f2:=HQ1.out.b2.cell;have fk:=HQ1.out.fi.fr.blk.cell;clear hM hA1 HS HQ0);clear f0 f1 f2 fk;refine d7 X.S 6 8 [(5,fun x=>x= .int .i32 v,fun _ W=>MA X C s1 W)] 5 mixed (by kernel_rfl) ⟨fun _ _ _ h hE=>h.ext hE,trivial⟩ ⟨.inl rfl,trivial⟩ ?_;repeat (refine sx ?_ (fun w1 hU=> ?_) ?_;rotate_left;(focus obtain⟨q0,q1,q2,q3⟩:=HQ1.out.cl hU.un;have f0:=q0.cell;have f1:=q1.cell;have f2:=q2.cell;have fk:=q3.cell;clear hU q0 q1 q2 q3;go_simp<;>with_reducible rfl);simp only[aY,aX,aW,aV,aU])
   refine bH _ _ (by rfl) rfl ⟨_,rfl⟩ rfl (fun w6 hT hp K hK=> ?_) ?_
   ·clear hp;have hc:=HVL.out w6 (HQ1.out.ext hT.un).vq;rw[hr]at hc;clear hT;go_simp;refine hc.mono ?_;intro e w7 h;obtain⟨hM,rfl,hA⟩:=h.ok_;exact hK _ _ hM rfl hA
   rintro _ rfl;simp only[aY,aX,aW,aV,aU];intro w8 hw8 hp;have HQ2:=G (HQ1.out.ms hw8 (hp _ (.head _)));clear hw8 hp HVL HQ1;have f0:=HQ2.out.b0.cell;have f1:=HQ2.out.b1.cell;have f2:=HQ2.out.b2.cell;have fk:=HQ2.out.fi.fr.blk.cell;simp only[ac,ap];go_wp2_with (go_at_call 165;refine(oC X C s1 _ HQ2.out.ma fb lb l none HQ2.out.fi.fr ⟨HQ2.out.fi.f,HQ2.out.fi.l⟩ nm hnm v hv).mono ?_;unfold DH;rw[hs];rintro e w9 ⟨rfl,hM,hR⟩;rw[if_neg (by decide)]at hR;have HQ3:=G (HQ2.out.mt (hM.mono fun k _ h=>h.elim (fun e=> .inr (.inr e)) fun e=> .inl (e▸HQ2.out.ma.ok.i)) hR.1 hR.2);clear hM hR);exact bodyPost_end (results_none rfl _ _ _) rfl (gE HQ3.out.mv HE.out HQ3.out.ma HQ3.out.fi.fr)
theorem zW (X:MX) (C:Cx) (n:Nat) (nm:List UInt8) (ex:List Ex) (bd el:List St) (hEx: ∀y∈ex,m7 X C n y):rT X C n (.mk 7 nm ex bd el):=by
 intro σ l fb lb w A1 A2 A3 c1 c2 c3 hA hF hl hn hRe hRb hRl;simp only[St.k,St.nm,St.ex,St.body,St.els]at hRe hRb hRl⊢;have hn1:2*σ.step.left<=n:=by show 2*(σ.left-1)<=n;omega
 have HQ0:=G (jo hA hF hRe hRb hRl #[.int .i64 7, .string (ai nm), .slice A1 ex.length c1, .slice A2 bd.length c2, .slice A3 el.length c3]);have HS:=G (eR HQ0.out.ma hl);have HVL:=G (fun W (h:y8 X C σ.step l fb lb w.heap.size (w.heap.size+1) (w.heap.size+1+1) #[.int .i64 7, .string (ai nm), .slice A1 ex.length c1, .slice A2 bd.length c2, .slice A3 el.length c3] (.slice A1 ex.length c1) ex W)=>gy X C n 7 nm ex hEx σ.step l fb lb w.heap.size (w.heap.size+1) (w.heap.size+1+1) A1 ex.length c1 (.slice A2 bd.length c2) (.slice A3 el.length c3) W h hn1);have hmf: ∀(fn:Fn) (first cap:Array Value) (w:World),(Instr.makeFunc fn first cap).run prog w= .ok (.func fn first cap) w:=fun _ _ _ _=>rfl;have hE:=CX (C:=C) (n:=n) (l:=l) (nm:=nm) (e:=ex) (b:=bd) (c:=el) hl;have f0:=HQ0.out.b0.cell;have hrg:j0 σ.step:=fun x=>hA.rng x;have hlo:=hF.fr.rng;clear hA hF hRe hRb hRl;simp only[MX.p]at*;rcases hr:val C n σ.step l ex with oc|⟨v,s1⟩
 ·rw[hr,ed]at hE;have HE:=G hE;clear hE;go_enter func130,ntmps130;go_wp2_with (first|(go_at_call 162;refine HS.out.mono ?_;rintro e w1 ⟨rfl,hM,hA1⟩;have HQ1:=G (HQ0.out.ms hM hA1);clear f0;have f0:=HQ1.out.b0.cell;have f1:=HQ1.out.b1.cell;have f2:=HQ1.out.b2.cell;have fk:=HQ1.out.fi.fr.blk.cell;clear hM hA1 HS HQ0)|(go_at_call 163;refine(HVL.out _ HQ1.out.vq).mono ?_;intro e w2 h;rw[hr]at h;obtain⟨hM,rfl,hH⟩:=h.err_;have HMx:=G (HQ1.out.mv.trans (hM.mono fun k _ h=> .inl h));have HH:=G hH;clear hM hH h HVL));exact⟨rfl,cT HMx.out HE.out rfl HH.out⟩
 ·rw[hr,eh]at hE;have HE:=G hE;clear hE;go_enter func130,ntmps130;go_wp2_with (first|(go_at_call 162;refine HS.out.mono ?_;rintro e w1 ⟨rfl,hM,hA1⟩;have HQ1:=G (HQ0.out.ms hM hA1);clear f0;have f0:=HQ1.out.b0.cell;have f1:=HQ1.out.b1.cell;have f2:=HQ1.out.b2.cell;have fk:=HQ1.out.fi.fr.blk.cell;clear hM hA1 HS HQ0)|(go_at_call 163;refine(HVL.out _ HQ1.out.vq).mono ?_;intro e w2 h;rw[hr]at h;obtain⟨hM,rfl,hA2⟩:=h.ok_;have HQ2:=G (HQ1.out.ms hM hA2);clear f0 f1 f2 fk;have f0:=HQ2.out.b0.cell;have f1:=HQ2.out.b1.cell;have f2:=HQ2.out.b2.cell;have fk:=HQ2.out.fi.fr.blk.cell;clear hM hA2 h HVL));exact bodyPost_end (results_none rfl _ _ _) rfl (gE HQ2.out.mv HE.out HQ2.out.ma HQ2.out.fi.fr)
theorem zZ (X:MX) (C:Cx) (n:Nat) (nm:List UInt8) (ex:List Ex) (bd el:List St) (hEx: ∀y∈ex,m7 X C n y) (hB:AT X C n bd) (hL:AT X C n el):rT X C n (.mk 4 nm ex bd el):=by
 intro σ l fb lb w A1 A2 A3 c1 c2 c3 hA hF hl hn hRe hRb hRl;simp only[St.k,St.nm,St.ex,St.body,St.els]at hRe hRb hRl⊢;have hn1:2*σ.step.left<=n:=by show 2*(σ.left-1)<=n;omega
 have HQ0:=G (jo hA hF hRe hRb hRl #[.int .i64 4, .string (ai nm), .slice A1 ex.length c1, .slice A2 bd.length c2, .slice A3 el.length c3]);have HS:=G (eR HQ0.out.ma hl);have HVL:=G (fun W (h:y8 X C σ.step l fb lb w.heap.size (w.heap.size+1) (w.heap.size+1+1) #[.int .i64 4, .string (ai nm), .slice A1 ex.length c1, .slice A2 bd.length c2, .slice A3 el.length c3] (.slice A1 ex.length c1) ex W)=>gy X C n 4 nm ex hEx σ.step l fb lb w.heap.size (w.heap.size+1) (w.heap.size+1+1) A1 ex.length c1 (.slice A2 bd.length c2) (.slice A3 el.length c3) W h hn1);have hmf: ∀(fn:Fn) (first cap:Array Value) (w:World),(Instr.makeFunc fn first cap).run prog w= .ok (.func fn first cap) w:=fun _ _ _ _=>rfl;have hE:=CZ (C:=C) (n:=n) (l:=l) (nm:=nm) (e:=ex) (b:=bd) (c:=el) hl;have f0:=HQ0.out.b0.cell;have hrg:j0 σ.step:=fun x=>hA.rng x;have hlo:=hF.fr.rng;unfold AT at hB hL;have HB:=G hB;have HL:=G hL;clear hB hL;clear hA hF hRe hRb hRl;simp only[MX.p]at*;rcases hr:val C n σ.step l ex with oc|⟨v,s1⟩
 ·rw[hr,ed]at hE;have HE:=G hE;clear hE;go_enter func130,ntmps130;go_wp2_with (first|(go_at_call 162;refine HS.out.mono ?_;rintro e w1 ⟨rfl,hM,hA1⟩;have HQ1:=G (HQ0.out.ms hM hA1);clear f0;have f0:=HQ1.out.b0.cell;have f1:=HQ1.out.b1.cell;have f2:=HQ1.out.b2.cell;have fk:=HQ1.out.fi.fr.blk.cell;clear hM hA1 HS HQ0)|(go_at_call 163;refine(HVL.out _ HQ1.out.vq).mono ?_;intro e w2 h;rw[hr]at h;obtain⟨hM,rfl,hH⟩:=h.err_;have HMx:=G (HQ1.out.mv.trans (hM.mono fun k _ h=> .inl h));have HH:=G hH;clear hM hH h HVL));exact⟨rfl,cT HMx.out HE.out rfl HH.out⟩
 ·rw[hr,eh]at hE;have hn2:2*s1.left<=n:=by have:=qB hr;omega
  by_cases hv0:v≠0
  ·have hvb:(v !=0)=true:=by simpa using hv0
   rw[if_pos hv0]at hE;rcases hs:mh (fun s l y=>st C n s l y) s1 l bd with oc|⟨⟨rt,l2⟩,s2⟩
   ·rw[hs]at hE;have HE:=G hE;clear hE;go_enter func130,ntmps130;go_wp2_with (first|(go_at_call 162;refine HS.out.mono ?_;rintro e w1 ⟨rfl,hM,hA1⟩;have HQ1:=G (HQ0.out.ms hM hA1);clear f0;have f0:=HQ1.out.b0.cell;have f1:=HQ1.out.b1.cell;have f2:=HQ1.out.b2.cell;have fk:=HQ1.out.fi.fr.blk.cell;clear hM hA1 HS HQ0)|(go_at_call 163;refine(HVL.out _ HQ1.out.vq).mono ?_;intro e w2 h;rw[hr]at h;obtain⟨hM,rfl,hA2⟩:=h.ok_;have HQ2:=G (HQ1.out.ms hM hA2);clear f0 f1 f2 fk;have f0:=HQ2.out.b0.cell;have f1:=HQ2.out.b1.cell;have f2:=HQ2.out.b2.cell;have fk:=HQ2.out.fi.fr.blk.cell;clear hM hA2 h HVL)|(go_at_call 86;refine(HB.out s1 l fb lb _ A2 c2 HQ2.out.ma HQ2.out.fi hn2 HQ2.out.rb).mono ?_;intro e w3 h;rw[hs]at h;obtain⟨hM,rfl,hH⟩:=h.err_;have HM:=G (HQ2.out.mv.trans hM);have HH:=G hH;clear hM hH h));exact⟨rfl,cT HM.out HE.out rfl HH.out⟩
   ·rw[hs]at hE;have HE:=G hE;clear hE;go_enter func130,ntmps130;go_wp2_with (first|(go_at_call 162;refine HS.out.mono ?_;rintro e w1 ⟨rfl,hM,hA1⟩;have HQ1:=G (HQ0.out.ms hM hA1);clear f0;have f0:=HQ1.out.b0.cell;have f1:=HQ1.out.b1.cell;have f2:=HQ1.out.b2.cell;have fk:=HQ1.out.fi.fr.blk.cell;clear hM hA1 HS HQ0)|(go_at_call 163;refine(HVL.out _ HQ1.out.vq).mono ?_;intro e w2 h;rw[hr]at h;obtain⟨hM,rfl,hA2⟩:=h.ok_;have HQ2:=G (HQ1.out.ms hM hA2);clear f0 f1 f2 fk;have f0:=HQ2.out.b0.cell;have f1:=HQ2.out.b1.cell;have f2:=HQ2.out.b2.cell;have fk:=HQ2.out.fi.fr.blk.cell;clear hM hA2 h HVL)|(go_at_call 86;refine(HB.out s1 l fb lb _ A2 c2 HQ2.out.ma HQ2.out.fi hn2 HQ2.out.rb).mono ?_;intro e w3 h;rw[hs]at h;obtain⟨hM,rfl,hA3,hF3⟩:=h.ok_;have HM:=G (HQ2.out.mv.trans hM);have HA3:=G hA3;have HF3:=G hF3;clear hM hA3 hF3 h));exact bodyPost_end (results_none rfl _ _ _) rfl (gE HM.out HE.out HA3.out HF3.out)
  ·have hvb:(v !=0)=false:=by simpa using hv0
   rw[if_neg (by simpa using hv0)]at hE;rcases hs:mh (fun s l y=>st C n s l y) s1 l el with oc|⟨⟨rt,l2⟩,s2⟩
   ·rw[hs]at hE;have HE:=G hE;clear hE;go_enter func130,ntmps130;go_wp2_with (first|(go_at_call 162;refine HS.out.mono ?_;rintro e w1 ⟨rfl,hM,hA1⟩;have HQ1:=G (HQ0.out.ms hM hA1);clear f0;have f0:=HQ1.out.b0.cell;have f1:=HQ1.out.b1.cell;have f2:=HQ1.out.b2.cell;have fk:=HQ1.out.fi.fr.blk.cell;clear hM hA1 HS HQ0)|(go_at_call 163;refine(HVL.out _ HQ1.out.vq).mono ?_;intro e w2 h;rw[hr]at h;obtain⟨hM,rfl,hA2⟩:=h.ok_;have HQ2:=G (HQ1.out.ms hM hA2);clear f0 f1 f2 fk;have f0:=HQ2.out.b0.cell;have f1:=HQ2.out.b1.cell;have f2:=HQ2.out.b2.cell;have fk:=HQ2.out.fi.fr.blk.cell;clear hM hA2 h HVL)|(go_at_call 86;refine(HL.out s1 l fb lb _ A3 c3 HQ2.out.ma HQ2.out.fi hn2 HQ2.out.rl).mono ?_;intro e w3 h;rw[hs]at h;obtain⟨hM,rfl,hH⟩:=h.err_;have HM:=G (HQ2.out.mv.trans hM);have HH:=G hH;clear hM hH h));exact⟨rfl,cT HM.out HE.out rfl HH.out⟩
   ·rw[hs]at hE;have HE:=G hE;clear hE;go_enter func130,ntmps130;go_wp2_with (first|(go_at_call 162;refine HS.out.mono ?_;rintro e w1 ⟨rfl,hM,hA1⟩;have HQ1:=G (HQ0.out.ms hM hA1);clear f0;have f0:=HQ1.out.b0.cell;have f1:=HQ1.out.b1.cell;have f2:=HQ1.out.b2.cell;have fk:=HQ1.out.fi.fr.blk.cell;clear hM hA1 HS HQ0)|(go_at_call 163;refine(HVL.out _ HQ1.out.vq).mono ?_;intro e w2 h;rw[hr]at h;obtain⟨hM,rfl,hA2⟩:=h.ok_;have HQ2:=G (HQ1.out.ms hM hA2);clear f0 f1 f2 fk;have f0:=HQ2.out.b0.cell;have f1:=HQ2.out.b1.cell;have f2:=HQ2.out.b2.cell;have fk:=HQ2.out.fi.fr.blk.cell;clear hM hA2 h HVL)|(go_at_call 86;refine(HL.out s1 l fb lb _ A3 c3 HQ2.out.ma HQ2.out.fi hn2 HQ2.out.rl).mono ?_;intro e w3 h;rw[hs]at h;obtain⟨hM,rfl,hA3,hF3⟩:=h.ok_;have HM:=G (HQ2.out.mv.trans hM);have HA3:=G hA3;have HF3:=G hF3;clear hM hA3 hF3 h));exact bodyPost_end (results_none rfl _ _ _) rfl (gE HM.out HE.out HA3.out HF3.out)
end
section
open Go.RowKit
def sW (g:Nat) (w:World):Nat:=match w.cell? ⟨g,4,none⟩with
 |some (.int _ v)=>v.toNat
 | _=>0
theorem MA.leftE {X:MX} {C:Cx} {σ:Ms} {w:World} (h:MA X C σ w):sW X.g w=σ.left:=by
 obtain⟨lf,h1,_,_,hb⟩:=h.blk;unfold sW;rw[hb.cell];exact h1
theorem Bq {C:Cx} {n:Nat} {s s':Ms} {l:Lo} {ex:List Ex} {v:Int} (he:ex≠ []) (h:val C n s l ex= .ok (v,s')):s'.left+1<=s.left:=by
 unfold val at h;rw[if_neg he]at h;exact Di h
theorem zY (X:MX) (C:Cx) (n:Nat) (nm:List UInt8) (ex:List Ex) (bd el:List St) (hne:ex≠ []) (hEx: ∀m,m<=n-> ∀y∈ex,m7 X C m y) (hB: ∀m,m<=n->AT X C m bd):rT X C n (.mk 5 nm ex bd el):=by
 intro σ l fb lb w A1 A2 A3 c1 c2 c3 hA hF hl hn hRe hRb hRl;simp only[St.k,St.nm,St.ex,St.body,St.els]at hRe hRb hRl⊢;have hn1:2*σ.step.left+1<=n:=by show 2*(σ.left-1)+1<=n;omega
 have HQ0:=G (jo hA hF hRe hRb hRl #[.int .i64 5, .string (ai nm), .slice A1 ex.length c1, .slice A2 bd.length c2, .slice A3 el.length c3]);have HS:=G (eR HQ0.out.ma hl);have hmf: ∀(fn:Fn) (first cap:Array Value) (w:World),(Instr.makeFunc fn first cap).run prog w= .ok (.func fn first cap) w:=fun _ _ _ _=>rfl;obtain⟨Rv,hRv⟩: ∃R,st C (n+1) σ l (.mk 5 nm ex bd el)=R:=⟨_,rfl⟩
 have HE0:=G (show wh C n σ.step l (ex.getD 0 nB) bd=Rv from by rw[<-hRv,CY hl]);have HEX:=G hEx;have HB:=G hB;have HNE:=G hne;have HN0:=G hn1;have HVA:=G (fun m s l=>show ev C m s l (ex.getD 0 nB)=val C m s l ex from by unfold val;rw[if_neg hne]);rw[hRv];have f0:=HQ0.out.b0.cell;clear hA hF hRe hRb hRl hEx hB hRv hne hn1 hn;simp only[MX.p]at*;go_enter func130,ntmps130;go_wp2_with (go_at_call 162;refine HS.out.mono ?_;rintro e w1 ⟨rfl,hM,hA1⟩;have HQ1:=G (HQ0.out.ms hM hA1);clear f0;have f0:=HQ1.out.b0.cell;have f1:=HQ1.out.b1.cell;have f2:=HQ1.out.b2.cell;have fk:=HQ1.out.fi.fr.blk.cell;clear hM hA1 HS HQ0);clear f0 f1 f2 fk
 go_loopw [] (fun wr=> ∃(m:Nat) (σj:Ms) (lj:Lo),Hid (m<=n)/\Hid (2*σj.left+1<=m)/\Hid (wh C m σj lj (ex.getD 0 nB) bd=Rv)/\Hid (TQ X C σj lj none fb lb w #[.int .i64 5, .string (ai nm), .slice A1 ex.length c1, .slice A2 bd.length c2, .slice A3 el.length c3] (.slice A1 ex.length c1) (.slice A2 bd.length c2) (.slice A3 el.length c3) ex bd el wr)) (fun wr=>sW X.g wr)
 case atStart=>exact⟨n,σ.step,l,G (ah _),HN0,HE0,HQ1⟩
 case round=>
  obtain⟨m,σj,lj,HM,HL,HE,HQ⟩:=hrel;obtain⟨m,rfl⟩: ∃k,m=k+1:=⟨m-1,by have:=HL.out;omega⟩
  have hE:=HE.out;rw[wh,HVA.out]at hE;have hmn:m<=n:=by have:=HM.out;omega
  have hm2:2*σj.left<=m:=by have:=HL.out;omega
  have HV:=G (fun W (h:y8 X C σj lj fb lb w.heap.size (w.heap.size+1) (w.heap.size+1+1) #[.int .i64 5, .string (ai nm), .slice A1 ex.length c1, .slice A2 bd.length c2, .slice A3 el.length c3] (.slice A1 ex.length c1) ex W)=>gy X C m 5 nm ex (HEX.out m hmn) σj lj fb lb w.heap.size (w.heap.size+1) (w.heap.size+1+1) A1 ex.length c1 (.slice A2 bd.length c2) (.slice A3 el.length c3) W h hm2);have hs2:=HB.out m hmn;unfold AT at hs2;have HS2:=G hs2;clear hs2;simp only[MX.p]at HS2;have f0:=HQ.out.b0.cell;have f1:=HQ.out.b1.cell;have f2:=HQ.out.b2.cell;have fk:=HQ.out.fi.fr.blk.cell;rcases hr:val C m σj lj ex with oc|⟨v,s1⟩
  ·rw[hr,ed]at hE;have HER:=G hE.symm;clear hE;go_wp2_with (go_at_call 163;refine(HV.out _ HQ.out.vq).mono ?_;intro e w2 h;rw[hr]at h;obtain⟨hM,rfl,hH⟩:=h.err_;have HMx:=G (HQ.out.mv.trans (hM.mono fun k _ h=> .inl h));have HH:=G hH;clear hM hH h HV);exact⟨rfl,cT HMx.out HER.out rfl HH.out⟩
  ·rw[hr,eh]at hE;have hlt:=Bq HNE.out hr;have hn2:2*s1.left<=m:=by omega
   by_cases hv0:v=0
   ·subst hv0;rw[if_pos rfl]at hE;have HER:=G hE.symm;clear hE;go_wp2_with (go_at_call 163;refine(HV.out _ HQ.out.vq).mono ?_;intro e w2 h;rw[hr]at h;obtain⟨hM,rfl,hA2⟩:=h.ok_;have HQ2:=G (HQ.out.ms hM hA2);clear f0 f1 f2 fk;have f0:=HQ2.out.b0.cell;have f1:=HQ2.out.b1.cell;have f2:=HQ2.out.b2.cell;have fk:=HQ2.out.fi.fr.blk.cell;clear hM hA2 h HV);exact bodyPost_end (results_none rfl _ _ _) rfl (gE HQ2.out.mv HER.out HQ2.out.ma HQ2.out.fi.fr)
   ·rw[if_neg hv0]at hE;have hvb:(v !=0)=true:=by simpa using hv0
    rcases hs:mh (fun s l y=>st C m s l y) s1 lj bd with oc|⟨⟨rt,l2⟩,s2⟩
    ·rw[hs,ed]at hE;have HER:=G hE.symm;clear hE;go_wp2_with (first|(go_at_call 163;refine(HV.out _ HQ.out.vq).mono ?_;intro e w2 h;rw[hr]at h;obtain⟨hM,rfl,hA2⟩:=h.ok_;have HQ2:=G (HQ.out.ms hM hA2);clear f0 f1 f2 fk;have f0:=HQ2.out.b0.cell;have f1:=HQ2.out.b1.cell;have f2:=HQ2.out.b2.cell;have fk:=HQ2.out.fi.fr.blk.cell;clear hM hA2 h HV)|(go_at_call 86;refine(HS2.out _ _ fb lb _ A2 c2 HQ2.out.ma HQ2.out.fi hn2 HQ2.out.rb).mono ?_;intro e w3 h;rw[hs]at h;obtain⟨hM,rfl,hH⟩:=h.err_;have HMx:=G (HQ2.out.mv.trans hM);have HH:=G hH;clear hM hH h));exact⟨rfl,cT HMx.out HER.out rfl HH.out⟩
    ·have hls:=wV hs;rw[hs,eh]at hE
     cases rt with
     |some u=>
      have HER:=G hE.symm;clear hE;go_wp2_with (first|(go_at_call 163;refine(HV.out _ HQ.out.vq).mono ?_;intro e w2 h;rw[hr]at h;obtain⟨hM,rfl,hA2⟩:=h.ok_;have HQ2:=G (HQ.out.ms hM hA2);clear f0 f1 f2 fk;have f0:=HQ2.out.b0.cell;have f1:=HQ2.out.b1.cell;have f2:=HQ2.out.b2.cell;have fk:=HQ2.out.fi.fr.blk.cell;clear hM hA2 h HV)|(go_at_call 86;refine(HS2.out _ _ fb lb _ A2 c2 HQ2.out.ma HQ2.out.fi hn2 HQ2.out.rb).mono ?_;intro e w3 h;rw[hs]at h;obtain⟨hM,rfl,hA3,hF3⟩:=h.ok_;have HQ3:=G (HQ2.out.mt hM hA3 hF3);clear f0 f1 f2 fk;have f0:=HQ3.out.b0.cell;have f1:=HQ3.out.b1.cell;have f2:=HQ3.out.b2.cell;have fk:=HQ3.out.fi.fr.blk.cell;simp only[gG,cF,bx]at fk;clear hM hA3 hF3 h));exact bodyPost_ret (results_none rfl _ _ _) rfl (gE HQ3.out.mv HER.out HQ3.out.ma HQ3.out.fi.fr)
     |none=>
      have HER:=G (show wh C m s2 l2 (ex.getD 0 nB) bd=Rv from hE);clear hE;go_wp2_with (first|(go_at_call 163;refine(HV.out _ HQ.out.vq).mono ?_;intro e w2 h;rw[hr]at h;obtain⟨hM,rfl,hA2⟩:=h.ok_;have HQ2:=G (HQ.out.ms hM hA2);clear f0 f1 f2 fk;have f0:=HQ2.out.b0.cell;have f1:=HQ2.out.b1.cell;have f2:=HQ2.out.b2.cell;have fk:=HQ2.out.fi.fr.blk.cell;clear hM hA2 h HV)|(go_at_call 86;refine(HS2.out _ _ fb lb _ A2 c2 HQ2.out.ma HQ2.out.fi hn2 HQ2.out.rb).mono ?_;intro e w3 h;rw[hs]at h;obtain⟨hM,rfl,hA3,hF3⟩:=h.ok_;have HQ3:=G (HQ2.out.mt hM hA3 hF3);clear f0 f1 f2 fk;have f0:=HQ3.out.b0.cell;have f1:=HQ3.out.b1.cell;have f2:=HQ3.out.b2.cell;have fk:=HQ3.out.fi.fr.blk.cell;simp only[gG,cQ,dL]at fk;clear hM hA3 hF3 h));go_roundw
      case rel=>exact⟨m,s2,l2,G hmn,G (by omega),HER,HQ3⟩
      case measure=>rw[HQ3.out.ma.leftE,HQ.out.ma.leftE];omega
end
end Go.Proofs.YtddomeddabfinaaGreatDoor
