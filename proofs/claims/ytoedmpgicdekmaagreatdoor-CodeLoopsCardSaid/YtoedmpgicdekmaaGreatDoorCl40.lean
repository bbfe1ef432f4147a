/- Parts of the proof. -/
import Derived.Test.YtoedmpgicdekmaaGreatDoorCl00
import Derived.WideKeyEntry
import Derived.Test.YtoedmpgicdekmaaGreatDoorCl39
set_option maxRecDepth 100000
set_option maxHeartbeats 8000000
set_option linter.unusedVariables false
set_option linter.unusedSimpArgs false
set_option linter.unusedSectionVars false
namespace Go.Proofs.YtoedmpgicdekmaaGreatDoor
open Go.Proofs.Tryz
open Go.RowKit
open Go.ChangeMaps Go.MapKept Go.WideMaps Go.WideElems
def gO (w:World) (b:Nat) (L:KF):Prop:=cB w b L/\ ∃es clock,w.heap[b]? =some (.map es clock)/\(∀x∈es.toList,x.born<clock)/\(es.toList.map (·.born)).Nodup
theorem gO.obj {w w':World} {b:Nat} {L:KF} (d:gO w b L) (a:w'.heap[b]? =w.heap[b]?):gO w' b L:=let⟨h1,es,c,h2,h3⟩:=d;⟨h1.obj a,es,c,a.trans h2,h3⟩
theorem gO.new (w:World):gO (w.alloc (.map #[] 0)) w.heap.size (λ_=>none):=⟨kr w,#[],0,(MapKept.heap_alloc w _).1,by simp,by simp⟩
theorem gO.congr {w:World} {b:Nat} {L d:KF} (a:gO w b L) (e: ∀s,L s=d s):gO w b d:=⟨a.1.congr e,a.2⟩
theorem vg (es:Array MapEntry) (j:Nat) (f:MapEntry->MapEntry) (a: ∀x,(f x).born=x.born):(es.modify j f).toList.map (·.born)=es.toList.map (·.born):=by
 rw[ej];apply fR;intro i;rw[dw,dw,dZ];split
 ·cases es.toList[i]? <;>simp[a]
 ·cases es.toList[i]? <;>simp
section
variable {P:Program} {t k e:TypeId} {z:Value} {w:World} {b:Nat} {L:KF}
theorem gO.store (o:oS P t k e z) (aj:gO w b L) {s:List UInt8} (R:s.length<=maxLen) (v:Value):
  ∃w',(Instr.mapUpdate t (.map (some b)) (.string (ak s)) v).run P w= .ok () w'/\gO w' b (L.upd s v)/\w.grownBy w' (some b):=by
 obtain⟨Z,es,c,h,I,M⟩:=aj;obtain⟨w',J,ai,ah⟩:=Z.store o R v;refine⟨w',J,⟨ai,?_⟩,ah⟩;obtain⟨ap,ar,A,X,an,am⟩:=Z;rw[h]at A;injection A with A;injection A with ab K;subst ab K;have F:=Go.Maps.string_keyed o.key;have y:=mQ o R;rcases F.find w y es.toList (qN o X)with⟨H,G⟩|⟨j,e0,H,G,q3⟩
 ·have a:(Instr.mapUpdate t (.map (some b)) (.string (ak s)) v).run P w= .ok () (setBlock w b (.map (es.push ⟨.string (ak s),v,c⟩) (c+1))):=by
   simp[Instr.mapUpdate,run_underlying o.map,MapKept.run_getObj_map h,F.check w false y,H,MapKept.run_setObj_map _ h,Result.andThen,setBlock]
  rw[J]at a;injection a with _ a;subst a;refine⟨_,_,heap_setBlock_same h _,λx d=> ?_,?_⟩
  ·simp only[dH,List.mem_append,cH]at d;rcases d with d|rfl
   ·have:=I x d;omega
   ·exact dR _
  ·rw[dH,fG,b7,du];refine List.nodup_append.2 ⟨M,by simp,λau ha aq af ab=> ?_⟩;simp only[cH]at af;obtain⟨x,d,rfl⟩:=List.mem_map.1 ha;have:=I x d;omega
 ·obtain⟨al,_,aa,ao⟩:=X e0 (cD G);rw[q3]at aa;have ag:=pJ aa;subst ag;have ae:es[j]? =some e0:=by simpa using G
  have a:(Instr.mapUpdate t (.map (some b)) (.string (ak s)) v).run P w= .ok () (setBlock w b (.map (es.modify j (λu=>{u with key:= .string (ak s),val:=v})) c)):=by
   simp[Instr.mapUpdate,run_underlying o.map,MapKept.run_getObj_map h,F.check w false y,H,ae,q3,F.stays w y,MapKept.run_setObj_map _ h,Result.andThen,setBlock]
  rw[J]at a;injection a with _ a;subst a;have V:(es.modify j (λu=>{u with key:= .string (ak s),val:=v})).toList.map (·.born)=es.toList.map (·.born):=vg es j _ λ_=>rfl;refine⟨_,_,heap_setBlock_same h _,λx d=> ?_,by rw[V];exact M⟩;have:x.born∈(es.modify j (λu=>{u with key:= .string (ak s),val:=v})).toList.map (·.born):=List.mem_map.2 ⟨x,d,rfl⟩;rw[V]at this;obtain⟨ac,ad,K⟩:=List.mem_map.1 this;rw[<-K];exact I ac ad
theorem gO.entry (y:oS P t k e z) (af:gO w b L) {s:List UInt8} (ac:s.length<=maxLen):
  ∃aj aa I,(Instr.mapEntry t (.map (some b)) (.string (ak s))).run P w= .ok (.tuple #[aj,goInt aa]) I/\w.grownBy I (some b)/\b<I.heap.size/\
   ∀(d:World) (v:Value),d.heap[b]? =I.heap[b]? -> ∃M,(Instr.entryStore t (.map (some b)) (goInt aa) v).run P d= .ok () M/\gO M b (L.upd s v)/\d.grownBy M (some b):=by
 have av:=λv=>af.store y ac v;obtain⟨aw,es,c,a,an,ab⟩:=af;obtain⟨aA,aC,K,aq,az,ay⟩:=aw;rw[a]at K;injection K with K;injection K with ai ax;subst ai ax;have F:=Go.Maps.string_keyed y.key;have A:=mQ y ac;have ae:b<w.heap.size:=(Array.getElem?_eq_some_iff.1 a).1;have J: ∀(w:World) (es:Array MapEntry) (c:Nat) (_:w.heap[b]? =some (.map es c)) x,w.grownBy (setBlock w b x) (some b):=λw es c ap x=>⟨rfl,rfl,rfl,by simp[setBlock],λi _ ar=>heap_setBlock_other ap _ (λe=>ar (by rw[e]))⟩
 have ag: ∀(ah X:Array MapEntry) (c1:Nat) (v:Value),(Instr.mapUpdate t (.map (some b)) (.string (ak s)) v).run P w= .ok () (setBlock w b (.map X c1))-> ∀d:World,d.heap[b]? =some (.map ah c1)->gO (setBlock d b (.map X c1)) b (L.upd s v):=λah X c1 v ao d u=>by
  obtain⟨w',h,o,G⟩:=av v;rw[ao]at h;injection h with _ h;subst h;exact o.obj ((heap_setBlock_same u _).trans (heap_setBlock_same a _).symm)
 rcases F.find w A es.toList (qN y aq)with⟨h,o⟩|⟨j,e0,h,o,G⟩
 ·refine⟨z,c,setBlock w b (.map (es.push ⟨.string (ak s),z,c⟩) (c+1)),?_,J w _ _ a _,by simpa[setBlock]using ae,λd v u=>⟨setBlock d b (.map (es.push ⟨.string (ak s),v,c⟩) (c+1)),?_,?_,?_⟩⟩
  ·simp[Instr.mapEntry,run_underlying y.map,MapKept.run_getObj_map a,F.check w false A,h,y.zero,MapKept.run_setObj_map _ a,Result.andThen,setBlock]
  ·have H:=u.trans (heap_setBlock_same a _);have V:(es.push ⟨.string (ak s),z,c⟩).findIdx? (λe=>((e.born:Nat):Int)==((c:Nat):Int))=some es.size:=by
    rw[findIdx_arr]
    exact findIdx_born (l:=(es.push ⟨.string (ak s),z,c⟩).toList) (j:=es.size) (e0:=⟨.string (ak s),z,c⟩) (by
     simp only[dH,fG,b7,du];refine List.nodup_append.2 ⟨ab,by simp,λaD ha aB au ai=> ?_⟩;simp only[cH]at au;obtain⟨x,al,rfl⟩:=List.mem_map.1 ha;have:=an x al
     omega) Qe
   have R:(es.push ⟨.string (ak s),z,c⟩).modify es.size (λe=>{e with val:=v})=es.push ⟨.string (ak s),v,c⟩:=by
    apply jn;rw[ej,dH,dH,<-Array.length_toList,modify_last]
   simp[Instr.entryStore,MapKept.run_getObj_map H,asInt,asIntOf,goInt,V,R,MapKept.run_setObj_map _ H,Result.andThen,setBlock]
  ·refine ag _ _ _ v ?_ d (u.trans (heap_setBlock_same a _));simp[Instr.mapUpdate,run_underlying y.map,MapKept.run_getObj_map a,F.check w false A,h,MapKept.run_setObj_map _ a,Result.andThen,setBlock]
  ·exact J d _ _ (u.trans (heap_setBlock_same a _)) _
 ·have ad:es[j]? =some e0:=by simpa using o
  have am:es.modify j (λe=>{e with key:= .string (ak s)})=es:=by
   apply jn;rw[ej,modify_eq_set _ _ _ _ o];have:({e0 with key:= .string (ak s)}:MapEntry)=e0:=by rw[<-G]
   rw[this];exact set_self _ _ _ o
  refine⟨e0.val,e0.born,setBlock w b (.map es c),?_,J w _ _ a _,by simpa[setBlock]using ae,λd v u=>⟨setBlock d b (.map (es.modify j (λZ=>{Z with key:= .string (ak s),val:=v})) c),?_,?_,?_⟩⟩
  ·simp[Instr.mapEntry,run_underlying y.map,MapKept.run_getObj_map a,F.check w false A,h,ad,G,F.stays w A,am,MapKept.run_setObj_map _ a,Result.andThen,setBlock]
  ·have H:=u.trans (heap_setBlock_same a _);have V:es.findIdx? (λe=>((e.born:Nat):Int)==((e0.born:Nat):Int))=some j:=by
    rw[findIdx_arr];exact findIdx_born ab o
   have R:es.modify j (λe=>{e with val:=v})=es.modify j (λZ=>{Z with key:= .string (ak s),val:=v}):=by
    apply jn;rw[ej,ej,modify_eq_set _ _ _ _ o,modify_eq_set _ _ _ _ o,<-G]
   simp[Instr.entryStore,MapKept.run_getObj_map H,asInt,asIntOf,goInt,V,R,MapKept.run_setObj_map _ H,Result.andThen,setBlock]
  ·refine ag _ _ _ v ?_ d (u.trans (heap_setBlock_same a _));simp[Instr.mapUpdate,run_underlying y.map,MapKept.run_getObj_map a,F.check w false A,h,ad,G,F.stays w A,MapKept.run_setObj_map _ a,Result.andThen,setBlock]
  ·exact J d _ _ (u.trans (heap_setBlock_same a _)) _
theorem qS {ops:Array Oper} {rest:List Oper} {d:Oper} {a:Act} {Q:Exit->Act->World->Prop} (K:oS P t k e z) (J:d.guard=none) (m x v:Operand) (H:d.op=Op.mapUpdate t m x v)
  (V:gO w b L) (I:a.eval m= .map (some b)) {s:List UInt8} (F:s.length<=maxLen) (y:a.eval x= .string (ak s)) (h:Value) (A:a.eval v=h)
  (R: ∀w',gO w' b (L.upd s h)->w.grownBy w' (some b)->wpList P ops Q rest (a.put d.dst undef) w'):wpList P ops Q (d::rest) a w:=by
 refine wpList_plain J λX M=> ?_;obtain⟨w',G,u,o⟩:=V.store K F h;unfold Oper.wp;simp[execOp,H,I,y,A,G,Result.andThen];exact M _ _ (R w' u o)
end
theorem AN {a:List Vr} {j:Nat} {n:Int} {l:List (Nm×Int)} (d:j<a.length):oo (a.drop j) n l=if a[j].sz=0 then oo (a.drop (j+1)) (n+4) ((a[j].nm,n)::l)else oo (a.drop (j+1)) n l:=by rw[ap d,oo]
theorem AO {a:List Vr} {j:Nat} {n:Int} {l:List (Nm×Int)} (d:j<a.length):sG (a.drop j) n l=if 0<a[j].sz then sG (a.drop (j+1)) (n+a[j].sz) ((a[j].nm,n)::l)else sG (a.drop (j+1)) n l:=by rw[ap d,sG]
theorem Ag {a:List Vr} {j:Nat} {l:List (Nm×Int)} (d:j<a.length):qY (a.drop j) l=if 0<a[j].sz then qY (a.drop (j+1)) ((a[j].nm,a[j].sz)::l)else qY (a.drop (j+1)) l:=by rw[ap d,qY]
structure CN (w0:World) (c bp bs:Nat) (cs:Array Value) (lp ls:List (Nm×Int)) (w:World):Prop where
 blk:aM w c 95 cs
 p:gO w bp (gx lp)
 s:gO w bs (gx ls)
 mv:Mv (λb=>b=bp\/b=bs) w0 w
theorem CN.ext {w0 w w':World} {c u bs:Nat} {o:Array Value} {h ls:List (Nm×Int)} (a:CN w0 c u bs o h ls w) (d:au w w'):CN w0 c u bs o h ls w':=
 ⟨a.blk.ext d,a.p.obj (d.obj a.p.1.lt),a.s.obj (d.obj a.s.1.lt),a.mv.trans (.of_ext d)⟩
theorem zb (w:World) (c base F bs:Nat) (bH:Option Addr) (n bq:Nat) (a:List Vr) (K:Array Value) (a2:aM w c 95 K) (a4:K[0]? =some (.slice bH n bq)) (bp:K[4]? =some (.map (some F))) (bn:K[5]? =some (.map (some bs)))
  (aY:pt w (λb=>b<base) (.slice bH n bq) a) (bg:gO w F (gx [])) (bf:gO w bs (gx [])) (ck:base<=F) (cj:base<=bs) (aQ:F≠bs) (bm:c≠F) (bU:c≠bs) (bh: ∀v∈a,v.nm.length<=1000000000/\0<=v.sz/\v.sz<=1000000) (bT:a.length<=1000000):
  Calls prog 31 #[.pointer (some ⟨c,0,none⟩)] w λe w'=>e= .returned (.int .i64 (sG a (oo a 0 []).1 (oo a 0 []).2).1)/\CN w c F bs K (sG a (oo a 0 []).1 (oo a 0 []).2).2 (qY a []) w':=by
 have bj:a.length=n:=by obtain⟨bG,c',e,_⟩:=aY;injection e with _ e _;exact e.symm
 have bu:=G aY;have ai:=G bj;have bB:=G bh;have cg:(n:Int)<=1000000:=Qa
 obtain⟨ad,af,a1⟩: ∃ad af,oo a 0 []=(ad,af):=⟨_,_,rfl⟩
 obtain⟨ap,ar,a3⟩: ∃ap ar,sG a ad af=(ap,ar):=⟨_,_,rfl⟩
 obtain⟨aq,aX⟩: ∃aq,qY a []=aq:=⟨_,rfl⟩
 rw[a1];simp only;rw[a3,aX];simp only;have bC:=G (show oo (a.drop 0) 0 []=(ad,af)from a1);have bE:=G (show sG (a.drop 0) ad af=(ap,ar)from a3);have bt:=G (show qY (a.drop 0) []=aq from aX);have bz:=G (show CN w c F bs K [] [] w from⟨a2,bg,bf,gn _ _⟩);have av:=G (λW (bX:Mv (λb=>b=F\/b=bs) w W)=>show dE (λb=>b<base) w W from bX.keepP λb cl _ e=>by omega);have a5:=(a2.cell 0).trans a4;have bF:=G bp;have bZ:=G bn;have b4:=G a4;clear a2 a4 bp bn aY bg bf bh bT bj a1 a3 aX;go_enter func31,ntmps31
 go_upto_region 3 with fail
 clear a5
 go_loopw [3,14] (λaH Z wr=> ∃(j:Nat) (M:Int) (ak:List (Nm×Int)),Z= .int .i64 (j:Int)/\aH= .int .i64 M/\j<=n/\(0<=M/\M<=4*j)/\Hid (CN w c F bs K ak [] wr)/\Hid (oo (a.drop j) M ak=(ad,af))) (λ_ Z _=>n-(intOf Z).toNat)
 case atStart=>exact⟨0,0,_,rfl,rfl,aD _,⟨by decide,by decide⟩,bz,bC⟩
 case round=>
  obtain⟨j,M,ak,rfl,rfl,aS,⟨bk,bS⟩,d,a7⟩:=hrel;clear bz bC;generalize wr=a9 at*;by_cases hlt:j<n
  ·have al:(j:Int)<(n:Int):=Qa
   have y:j<a.length:=by rw[ai.out];exact hlt
   obtain⟨bG,c',aO,aW⟩:=bu.out;injection aO with aN aL aK;subst aN aK;clear aL;rcases aW with aP|⟨_,_,b,o,rfl,hPb,hbw,hcell⟩
   ·rw[aP]at y;simp at y
   have e0:=(av.out _ d.out.mv).cell (o+j*2) hPb hbw|>.trans (hcell j y).1;have ah:=(av.out _ d.out.mv).cell (o+j*2+1) hPb hbw|>.trans (hcell j y).2;obtain⟨aI,bP,bO⟩:=bB.out _ (ay y);have X:=G ((AN y).symm.trans a7.out);generalize a[j]=v at*;clear hcell;by_cases hz:v.sz=0
   ·rw[if_pos hz]at X
    go_upto_region 5 with fail
    generalize I:World.alloc a9 _=W1;obtain⟨J,u,_⟩:=kZ I;replace d:=G (d.out.ext J);clear I J e0 ah;have ac:=u.out.cell;have bR:(v.sz==0)=true:=beq_iff_eq.2 hz;clear hz
    go_upto_region 6 with fail
    refine aB 7 1 [] mixed Qb trivial ?_;repeat (refine sx ?_ (λb7 aZ=> ?_) ?_;rotate_left;(focus have cm:=((d.out.blk.ext aZ.un).cell 4).trans bF.out;have ac:=(u.out.ext aZ.un).cell;clear aZ;go_simp<;>with_reducible rfl);simp only[bA,bx,bw,br,bo])
    intro b6 be _;replace d:=G (d.out.ext be.un);clear be u ac;simp only[ae,aw];go_wp2_with (at_mapUpdate;refine qS wu rfl _ _ _ rfl (s:=v.nm) d.out.p rfl (ax aI Qd) rfl _ rfl ?_;intro aF bl R;have A:=G (show CN w c F bs K ((v.nm,M)::ak) [] aF from⟨d.out.blk.grown R (λe=>bm (ab e)),bl.congr (l_ _ _ _),d.out.s.obj (R.block _ d.out.s.1.lt (λe=>aQ (ab e).symm)),d.out.mv.trans (.of_grown R λk e=> .inl (ab e).symm)⟩);clear bl R d);go_roundw
    case rel=>exact⟨j+1,M+4,_,by go_num,by go_num,by omega,⟨by omega,by omega⟩,A,X⟩
    case measure=>simp[intOf];omega
   ·rw[if_neg hz]at X
    go_upto_region 5 with fail
    generalize I:World.alloc a9 _=W1;obtain⟨J,u,_⟩:=kZ I;replace d:=G (d.out.ext J);clear I J e0 ah;have ac:=u.out.cell;have bR:(v.sz==0)=false:=Qn.2 hz;clear hz;go_wp2_with fail;go_roundw
    case rel=>exact⟨j+1,M,_,by go_num,rfl,by omega,⟨by omega,by omega⟩,d,X⟩
    case measure=>simp[intOf];omega
  ·have aR:n=j:=Qa
   subst aR;have al: ¬(n:Int)<(n:Int):=Qa
   have aa:=a7.out;rw[bQ (fC ai.out),oo]at aa;obtain⟨rfl,rfl⟩:=jW .. ▸aa;have a5:=(d.out.blk.cell 0).trans b4.out;clear a7 aa hlt aS
   go_upto_region 10 with fail
   clear al a5;have bD:=bE
   go_loopw [3,37] (λaH Z wr=> ∃(j:Nat) (H:Int) (aj ls:List (Nm×Int)),Z= .int .i64 (j:Int)/\aH= .int .i64 H/\j<=n/\(0<=H/\H<=4*n+1000000*j)/\Hid (CN w c F bs K aj ls wr)/\Hid (sG (a.drop j) H aj=(ap,ar))/\Hid (qY (a.drop j) ls=aq)) (λ_ Z _=>n-(intOf Z).toNat)
   case atStart=>exact⟨0,M,_,_,rfl,rfl,aD _,⟨bk,by omega⟩,d,bD,bt⟩
   case round=>
    obtain⟨j,H,aj,ls,rfl,rfl,aS,⟨ci,ch⟩,A,X,a6⟩:=hrel;clear d bD bE bt bk bS;generalize wr=ag at*;by_cases hlt:j<n
    ·have al:(j:Int)<(n:Int):=Qa
     have y:j<a.length:=by rw[ai.out];exact hlt
     obtain⟨bG,c',aO,aW⟩:=bu.out;injection aO with aN aL aK;subst aN aK;clear aL;rcases aW with aP|⟨_,_,b,o,rfl,hPb,hbw,hcell⟩
     ·rw[aP]at y;simp at y
     have e0:=(av.out _ A.out.mv).cell (o+j*2) hPb hbw|>.trans (hcell j y).1;have ah:=(av.out _ A.out.mv).cell (o+j*2+1) hPb hbw|>.trans (hcell j y).2;obtain⟨aI,bP,bO⟩:=bB.out _ (ay y);have az:=G ((AO y).symm.trans X.out);have au:=G ((Ag y).symm.trans a6.out);generalize a[j]=v at*;clear hcell;have bi:=ax aI (show 1000000000<=maxLen by decide);by_cases hz:0<v.sz
     ·rw[if_pos hz]at az au;have cf:IntKind.i64.wrap (H+v.sz)=H+v.sz:=Qc
      go_upto_region 12 with fail
      generalize I:World.alloc ag _=W1;obtain⟨J,u,_⟩:=kZ I;replace u:=G (show aM W1 ag.heap.size _ _/\F<ag.heap.size/\bs<ag.heap.size from⟨u.out,A.out.p.1.lt,A.out.s.1.lt⟩);replace A:=G (A.out.ext J);clear I J e0 ah;have ac:=u.out.1.cell
      go_upto_region 13 with fail
      have V:=G (A.out.ext (eJ (aG W1)));have co:=(V.out.blk.cell 4).trans bF.out;have cn:=(V.out.blk.cell 5).trans bZ.out;have cp:=(u.out.1.ext (eJ (aG W1))).cell;obtain⟨b9,ca,aF,bN,R,bV,bc⟩:=V.out.p.entry wu bi;obtain⟨b5,bM,aJ,aT⟩:=bc aF (.int .i64 H) rfl;have ao:=am R aT;have ba:=V.out.s.obj (ao.block _ V.out.s.1.lt (λe=>aQ (ab e).symm));obtain⟨b8,t6,bJ,bL,aV,bW,bd⟩:=ba.entry wu bi;obtain⟨bI,bK,bb,aU⟩:=bd bJ (.int .i64 v.sz) rfl;have an:=am aV aU;have aC:=(u.out.1.ext (eJ (aG W1))).grown R (λe=>by have:=u.out.2;injection e with e;omega);have aA:=aC.grown aT (λe=>by have:=u.out.2;injection e with e;omega);have aE:=aA.grown aV (λe=>by have:=u.out.2;injection e with e;omega);have a8:=aE.grown aU (λe=>by have:=u.out.2;injection e with e;omega);have cc:=aC.cell;have cd:=a8.cell;have cb:=aA.cell;have ce:=aE.cell
      have bY:=G (show CN w c F bs K ((v.nm,H)::aj) ((v.nm,v.sz)::ls) bI from
       ⟨(V.out.blk.grown ao (λe=>bm (ab e))).grown an (λe=>bU (ab e)),(aJ.obj (an.block _ aJ.1.lt (λe=>aQ (ab e)))).congr (l_ _ _ _),bb.congr (l_ _ _ _),(V.out.mv.trans (.of_grown ao λk e=> .inl (ab e).symm)).trans (.of_grown an λk e=> .inr (ab e).symm)⟩)
      clear bc bd R aT ao ba aJ aV aU an bb aC aA aE a8 V A u ac bV bW;unfold goInt at bN bM bL bK;go_region;all_goals
       go_wp2_with fail;go_roundw
       case rel=>exact⟨j+1,H+v.sz,_,_,by go_num,by go_num,by omega,⟨by omega,by omega⟩,bY,az,au⟩
       case measure=>simp[intOf];omega
     ·rw[if_neg hz]at az au
      go_upto_region 12 with fail
      generalize I:World.alloc ag _=W1;obtain⟨J,u,_⟩:=kZ I;replace A:=G (A.out.ext J);clear I J e0 ah;have ac:=u.out.cell;go_wp2_with fail;go_roundw
      case rel=>exact⟨j+1,H,_,_,by go_num,rfl,by omega,⟨by omega,by omega⟩,A,az,au⟩
      case measure=>simp[intOf];omega
    ·have aR:n=j:=Qa
     subst aR;have al: ¬(n:Int)<(n:Int):=Qa
     have aa:=X.out;rw[bQ (fC ai.out),sG]at aa;obtain⟨rfl,rfl⟩:=jW .. ▸aa;have bv:=a6.out;rw[bQ (fC ai.out),qY]at bv;subst bv;clear X a6 aa hlt aS;go_wp2_with fail;go_ret;exact⟨rfl,A.out⟩
end Go.Proofs.YtoedmpgicdekmaaGreatDoor
