/- Parts of the proof. -/
import Derived.WideKeyEntry
import Derived.Test.YtoedmpgicdekmaaGreatDoorCo30
set_option maxRecDepth 100000
set_option maxHeartbeats 8000000
set_option linter.all false
namespace Go.Proofs.YtoedmpgicdekmaaGreatDoor
open Go.Proofs.Tryz
open Go.RowKit
open Go.ChangeMaps Go.MapKept Go.WideMaps Go.WideElems
def ii (w:World) (b:Nat) (L:KF):Prop:=cH w b L/\ ∃es clock,w.heap[b]? =some (.map es clock)/\(∀x∈es.toList,x.born<clock)/\(es.toList.map (·.born)).Nodup
theorem ii.obj {a w':World} {b:Nat} {L:KF} (h:ii a b L) (d:w'.heap[b]? =a.heap[b]?):ii w' b L:=let⟨h1,es,c,h2,h3⟩:=h;⟨h1.obj d,es,c,d.trans h2,h3⟩
theorem ii.new (a:World):ii (a.alloc (.map #[] 0)) a.heap.size (λ_=>none):=⟨kM a,#[],0,(MapKept.heap_alloc a _).1,by simp,by simp⟩
theorem ii.congr {a:World} {b:Nat} {L M:KF} (d:ii a b L) (e: ∀s,L s=M s):ii a b M:=⟨d.1.congr e,d.2⟩
theorem vW (es:Array MapEntry) (j:Nat) (f:MapEntry->MapEntry) (a: ∀x,(f x).born=x.born):(es.modify j f).toList.map (·.born)=es.toList.map (·.born):=by
 rw[eB];apply ge;intro i;rw[dC,dC,eg];split
 ·cases es.toList[i]? <;>simp[a]
 ·cases es.toList[i]? <;>simp
section
variable {P:Program} {t k e:TypeId} {z:Value} {w:World} {b:Nat} {L:KF}
theorem ii.store (o:pC P t k e z) (ap:ii w b L) {s:List UInt8} (I:s.length<=maxLen) (v:Value):
  ∃w',(Instr.mapUpdate t (.map (some b)) (.string (Z s)) v).run P w=.ok () w'/\ii w' b (L.upd s v)/\w.grownBy w' (some b):=by
 obtain⟨ae,es,c,h,R,aa⟩:=ap;obtain⟨w',V,ao,an⟩:=ae.store o I v;refine⟨w',V,⟨ao,?_⟩,an⟩;obtain⟨aw,ay,A,ad,au,ar⟩:=ae;rw[h]at A;injection A with A;injection A with ag X;subst ag X;have K:=Go.Maps.string_keyed o.key;have y:=nA o I;rcases K.find w y es.toList (rt o ad)with⟨G,F⟩|⟨j,e0,G,F,q3⟩
 ·have a:(Instr.mapUpdate t (.map (some b)) (.string (Z s)) v).run P w=.ok () (setBlock w b (.map (es.push ⟨.string (Z s),v,c⟩) (c+1))):=by
   simp[Instr.mapUpdate,run_underlying o.map,MapKept.run_getObj_map h,K.check w false y,G,MapKept.run_setObj_map _ h,Result.andThen,setBlock]
  rw[V]at a;injection a with _ a;subst a;refine⟨_,_,heap_setBlock_same h _,λx d=> ?_,?_⟩
  ·simp only[dP,fU,bR]at d;rcases d with d|rfl
   ·have:=R x d;omega
   ·exact dZ _
  ·rw[dP,fV,bL,dz];refine List.nodup_append.2 ⟨aa,by simp,λaz ha ax al ag=> ?_⟩;simp only[bR]at al;obtain⟨x,d,rfl⟩:=List.mem_map.1 ha;have:=R x d;omega
 ·obtain⟨aq,_,af,av⟩:=ad e0 (cI F);rw[q3]at af;have am:=qb af;subst am;have aj:es[j]? =some e0:=by simpa using F
  have a:(Instr.mapUpdate t (.map (some b)) (.string (Z s)) v).run P w=.ok () (setBlock w b (.map (es.modify j (λu=>{u with key:=.string (Z s),val:=v})) c)):=by
   simp[Instr.mapUpdate,run_underlying o.map,MapKept.run_getObj_map h,K.check w false y,G,aj,q3,K.stays w y,MapKept.run_setObj_map _ h,Result.andThen,setBlock]
  rw[V]at a;injection a with _ a;subst a;have H:(es.modify j (λu=>{u with key:=.string (Z s),val:=v})).toList.map (·.born)=es.toList.map (·.born):=vW es j _ λ_=>rfl;refine⟨_,_,heap_setBlock_same h _,λx d=> ?_,by rw[H];exact aa⟩;have:x.born∈(es.modify j (λu=>{u with key:=.string (Z s),val:=v})).toList.map (·.born):=List.mem_map.2 ⟨x,d,rfl⟩;rw[H]at this;obtain⟨ah,ai,X⟩:=List.mem_map.1 this;rw[<-X];exact R ah ai
theorem ii.entry (y:pC P t k e z) (al:ii w b L) {s:List UInt8} (ah:s.length<=maxLen):
  ∃ap af R,(Instr.mapEntry t (.map (some b)) (.string (Z s))).run P w=.ok (.tuple #[ap,goInt af]) R/\w.grownBy R (some b)/\b<R.heap.size/\
   ∀(d:World) (v:Value),d.heap[b]? =R.heap[b]? -> ∃aa,(Instr.entryStore t (.map (some b)) (goInt af) v).run P d=.ok () aa/\ii aa b (L.upd s v)/\d.grownBy aa (some b):=by
 have az:=λv=>al.store y ah v;obtain⟨aA,es,c,a,au,ag⟩:=al;obtain⟨aE,aG,X,ax,aD,aC⟩:=aA;rw[a]at X;injection X with X;injection X with ao aB;subst ao aB;have K:=Go.Maps.string_keyed y.key;have A:=nA y ah;have aj:b<w.heap.size:=(Array.getElem?_eq_some_iff.1 a).1;have V: ∀(w:World) (es:Array MapEntry) (c:Nat) (_:w.heap[b]? =some (.map es c)) x,w.grownBy (setBlock w b x) (some b):=λw es c aw x=>⟨rfl,rfl,rfl,by simp[setBlock],λi _ hi=>heap_setBlock_other aw _ (λe=>hi (by rw[e]))⟩
 have am: ∀(an ad:Array MapEntry) (c1:Nat) (v:Value),(Instr.mapUpdate t (.map (some b)) (.string (Z s)) v).run P w=.ok () (setBlock w b (.map ad c1))-> ∀d:World,d.heap[b]? =some (.map an c1)->ii (setBlock d b (.map ad c1)) b (L.upd s v):=λan ad c1 v av d u=>by
  obtain⟨w',h,o,F⟩:=az v;rw[av]at h;injection h with _ h;subst h;exact o.obj ((heap_setBlock_same u _).trans (heap_setBlock_same a _).symm)
 rcases K.find w A es.toList (rt y ax)with⟨h,o⟩|⟨j,e0,h,o,F⟩
 ·refine⟨z,c,setBlock w b (.map (es.push ⟨.string (Z s),z,c⟩) (c+1)),?_,V w _ _ a _,by simpa[setBlock]using aj,λd v u=>⟨setBlock d b (.map (es.push ⟨.string (Z s),v,c⟩) (c+1)),?_,?_,?_⟩⟩
  ·simp[Instr.mapEntry,run_underlying y.map,MapKept.run_getObj_map a,K.check w false A,h,y.zero,MapKept.run_setObj_map _ a,Result.andThen,setBlock]
  ·have G:=u.trans (heap_setBlock_same a _);have H:(es.push ⟨.string (Z s),z,c⟩).findIdx? (λe=>((e.born:Nat):Int)==((c:Nat):Int))=some es.size:=by
    rw[findIdx_arr]
    exact findIdx_born (l:=(es.push ⟨.string (Z s),z,c⟩).toList) (j:=es.size) (e0:=⟨.string (Z s),z,c⟩) (by
     simp only[dP,fV,bL,dz];refine List.nodup_append.2 ⟨ag,by simp,λaH ha aF ay ao=> ?_⟩;simp only[bR]at ay;obtain⟨x,aq,rfl⟩:=List.mem_map.1 ha;have:=au x aq
     omega) Qe
   have I:(es.push ⟨.string (Z s),z,c⟩).modify es.size (λe=>{e with val:=v})=es.push ⟨.string (Z s),v,c⟩:=by
    apply jF;rw[eB,dP,dP,<-Array.length_toList,modify_last]
   simp[Instr.entryStore,MapKept.run_getObj_map G,asInt,asIntOf,goInt,H,I,MapKept.run_setObj_map _ G,Result.andThen,setBlock]
  ·refine am _ _ _ v ?_ d (u.trans (heap_setBlock_same a _));simp[Instr.mapUpdate,run_underlying y.map,MapKept.run_getObj_map a,K.check w false A,h,MapKept.run_setObj_map _ a,Result.andThen,setBlock]
  ·exact V d _ _ (u.trans (heap_setBlock_same a _)) _
 ·have ai:es[j]? =some e0:=by simpa using o
  have ar:es.modify j (λe=>{e with key:=.string (Z s)})=es:=by
   apply jF;rw[eB,modify_eq_set _ _ _ _ o];have:({e0 with key:=.string (Z s)}:MapEntry)=e0:=by rw[<-F]
   rw[this];exact set_self _ _ _ o
  refine⟨e0.val,e0.born,setBlock w b (.map es c),?_,V w _ _ a _,by simpa[setBlock]using aj,λd v u=>⟨setBlock d b (.map (es.modify j (λae=>{ae with key:=.string (Z s),val:=v})) c),?_,?_,?_⟩⟩
  ·simp[Instr.mapEntry,run_underlying y.map,MapKept.run_getObj_map a,K.check w false A,h,ai,F,K.stays w A,ar,MapKept.run_setObj_map _ a,Result.andThen,setBlock]
  ·have G:=u.trans (heap_setBlock_same a _);have H:es.findIdx? (λe=>((e.born:Nat):Int)==((e0.born:Nat):Int))=some j:=by
    rw[findIdx_arr];exact findIdx_born ag o
   have I:es.modify j (λe=>{e with val:=v})=es.modify j (λae=>{ae with key:=.string (Z s),val:=v}):=by
    apply jF;rw[eB,eB,modify_eq_set _ _ _ _ o,modify_eq_set _ _ _ _ o,<-F]
   simp[Instr.entryStore,MapKept.run_getObj_map G,asInt,asIntOf,goInt,H,I,MapKept.run_setObj_map _ G,Result.andThen,setBlock]
  ·refine am _ _ _ v ?_ d (u.trans (heap_setBlock_same a _));simp[Instr.mapUpdate,run_underlying y.map,MapKept.run_getObj_map a,K.check w false A,h,ai,F,K.stays w A,MapKept.run_setObj_map _ a,Result.andThen,setBlock]
  ·exact V d _ _ (u.trans (heap_setBlock_same a _)) _
theorem rB {ops:Array Oper} {rest:List Oper} {d:Oper} {a:Act} {Q:Exit->Act->World->Prop} (aa:pC P t k e z) (X:d.guard=none) (m x v:Operand) (R:d.op=Op.mapUpdate t m x v)
  (ad:ii w b L) (V:a.eval m=.map (some b)) {s:List UInt8} (F:s.length<=maxLen) (y:a.eval x=.string (Z s)) (h:Value) (A:a.eval v=h)
  (H: ∀w',ii w' b (L.upd s h)->w.grownBy w' (some b)->wpList P ops Q rest (a.put d.dst undef) w'):wpList P ops Q (d::rest) a w:=by
 refine wpList_plain X λae I=> ?_;obtain⟨w',G,u,o⟩:=ad.store aa F h;unfold Oper.wp;simp[execOp,R,V,y,A,G,Result.andThen];exact I _ _ (H w' u o)
end
theorem BG {a:List Vr} {j:Nat} {n:Int} {l:List (Nm×Int)} (d:j<a.length):lN (a.drop j) n l=if a[j].sz=0 then lN (a.drop (j+1)) (n+4) ((a[j].nm,n)::l)else lN (a.drop (j+1)) n l:=by rw[ap d,lN]
theorem BH {a:List Vr} {j:Nat} {n:Int} {l:List (Nm×Int)} (d:j<a.length):qe (a.drop j) n l=if 0<a[j].sz then qe (a.drop (j+1)) (n+a[j].sz) ((a[j].nm,n)::l)else qe (a.drop (j+1)) n l:=by rw[ap d,qe]
theorem AW {a:List Vr} {j:Nat} {l:List (Nm×Int)} (d:j<a.length):pI (a.drop j) l=if 0<a[j].sz then pI (a.drop (j+1)) ((a[j].nm,a[j].sz)::l)else pI (a.drop (j+1)) l:=by rw[ap d,pI]
structure DE (w0:World) (c bp bs:Nat) (cs:Array Value) (lp ls:List (Nm×Int)) (w:World):Prop where
 blk:aO w c 95 cs
 p:ii w bp (gL lp)
 s:ii w bs (gL ls)
 mv:Mv (λb=>b=bp\/b=bs) w0 w
theorem DE.ext {w0 h w':World} {c w bs:Nat} {u:Array Value} {o ls:List (Nm×Int)} (a:DE w0 c w bs u o ls h) (d:au h w'):DE w0 c w bs u o ls w':=
 ⟨a.blk.ext d,a.p.obj (d.obj a.p.1.lt),a.s.obj (d.obj a.s.1.lt),a.mv.trans (.of_ext d)⟩
theorem zU (w:World) (c base A bs:Nat) (bM:Option Addr) (n bv:Nat) (a:List Vr) (X:Array Value) (a7:aO w c 95 X) (a9:X[0]? =some (.slice bM n bv)) (bu:X[4]? =some (.map (some A))) (bt:X[5]? =some (.map (some bs)))
  (a4:nM w (λb=>b<base) (.slice bM n bv) a) (bl:ii w A (gL [])) (bk:ii w bs (gL [])) (cp:base<=A) (co:base<=bs) (aV:A≠bs) (br:c≠A) (bZ:c≠bs) (bm: ∀v∈a,v.nm.length<=1000000000/\0<=v.sz/\v.sz<=1000000) (bY:a.length<=1000000):
  Calls prog 31 #[.pointer (some ⟨c,0,none⟩)] w λe w'=>e=.returned (.int .i64 (qe a (lN a 0 []).1 (lN a 0 []).2).1)/\DE w c A bs X (qe a (lN a 0 []).1 (lN a 0 []).2).2 (pI a []) w':=by
 have bo:a.length=n:=by obtain⟨bL,c',e,_⟩:=a4;injection e with _ e _;exact e.symm
 have bx:=G a4;have ao:=G bo;have bG:=G bm;have cl:(n:Int)<=1000000:=J
 obtain⟨aj,Z,a6⟩: ∃aj Z,lN a 0 []=(aj,Z):=⟨_,_,rfl⟩
 obtain⟨az,aC,a8⟩: ∃az aC,qe a aj Z=(az,aC):=⟨_,_,rfl⟩
 obtain⟨aA,a3⟩: ∃aA,pI a []=aA:=⟨_,rfl⟩
 rw[a6];simp only;rw[a8,a3];simp only;have bH:=G (show lN (a.drop 0) 0 []=(aj,Z)from a6);have bJ:=G (show qe (a.drop 0) aj Z=(az,aC)from a8);have bw:=G (show pI (a.drop 0) []=aA from a3);have bF:=G (show DE w c A bs X [] [] w from⟨a7,bl,bk,gG _ _⟩);have aF:=G (λW (b6:Mv (λb=>b=A\/b=bs) w W)=>show dM (λb=>b<base) w W from b6.keepP λb cq _ e=>by omega);have ba:=(a7.cell 0).trans a9;have bK:=G bu;have b8:=G bt;have b9:=G a9;clear a7 a9 bu bt a4 bl bk bm bY bo a6 a8 a3;go_enter func31,ntmps31
 go_upto_region 3 with fail
 clear ba
 go_loopw [3,14] (λaM ag wr=> ∃(j:Nat) (aa:Int) (aq:List (Nm×Int)),ag=.int .i64 (j:Int)/\aM=.int .i64 aa/\j<=n/\(0<=aa/\aa<=4*j)/\Hid (DE w c A bs X aq [] wr)/\Hid (lN (a.drop j) aa aq=(aj,Z))) (λ_ ag _=>n-(intOf ag).toNat)
 case atStart=>exact⟨0,0,_,rfl,rfl,aD _,⟨by decide,by decide⟩,bF,bH⟩
 case round=>
  obtain⟨j,aa,aq,rfl,rfl,aX,⟨bp,bX⟩,d,bc⟩:=hrel;clear bF bH;generalize wr=be at*;by_cases hlt:j<n
  ·have ar:(j:Int)<(n:Int):=J
   have y:j<a.length:=by rw[ao.out];exact hlt
   obtain⟨bL,c',aT,a2⟩:=bx.out;injection aT with aS aR aQ;subst aS aQ;clear aR;rcases a2 with aU|⟨_,_,b,o,rfl,hPb,hbw,hcell⟩
   ·rw[aU]at y;simp at y
   have e0:=(aF.out _ d.out.mv).cell (o+j*2) hPb hbw|>.trans (hcell j y).1;have am:=(aF.out _ d.out.mv).cell (o+j*2+1) hPb hbw|>.trans (hcell j y).2;obtain⟨aN,bV,bU⟩:=bG.out _ (ax y);have af:=G ((BG y).symm.trans bc.out);generalize a[j]=v at*;clear hcell;by_cases hz:v.sz=0
   ·rw[if_pos hz]at af
    go_upto_region 5 with fail
    generalize R:World.alloc be _=W1;obtain⟨V,u,_⟩:=lC R;replace d:=G (d.out.ext V);clear R V e0 am;have ai:=u.out.cell;have bW:(v.sz==0)=true:=beq_iff_eq.2 hz;clear hz
    go_upto_region 6 with fail
    refine aB 7 1 [] mixed Qb trivial ?_;repeat (refine sx ?_ (λcc a5=> ?_) ?_;rotate_left;(focus have cr:=((d.out.blk.ext a5.un).cell 4).trans bK.out;have ai:=(u.out.ext a5.un).cell;clear a5;go_simp<;>with_reducible rfl);simp only[bE,bD,bC,bB,bA])
    intro cb bj _;replace d:=G (d.out.ext bj.un);clear bj u ai;simp only[ae,aw];go_wp2_with (at_mapUpdate;refine rB xn rfl _ _ _ rfl (s:=v.nm) d.out.p rfl (ay aN Qd) rfl _ rfl ?_;intro aL bq H;have z:=G (show DE w c A bs X ((v.nm,aa)::aq) [] aL from⟨d.out.blk.grown H (λe=>br (I e)),bq.congr (mE _ _ _),d.out.s.obj (H.block _ d.out.s.1.lt (λe=>aV (I e).symm)),d.out.mv.trans (.of_grown H λk e=> .inl (I e).symm)⟩);clear bq H d);go_roundw
    case rel=>exact⟨j+1,aa+4,_,by go_num,by go_num,by omega,⟨by omega,by omega⟩,z,af⟩
    case measure=>simp[intOf];omega
   ·rw[if_neg hz]at af
    go_upto_region 5 with fail
    generalize R:World.alloc be _=W1;obtain⟨V,u,_⟩:=lC R;replace d:=G (d.out.ext V);clear R V e0 am;have ai:=u.out.cell;have bW:(v.sz==0)=false:=Qn.2 hz;clear hz;go_wp2_with fail;go_roundw
    case rel=>exact⟨j+1,aa,_,by go_num,rfl,by omega,⟨by omega,by omega⟩,d,af⟩
    case measure=>simp[intOf];omega
  ·have aW:n=j:=J
   subst aW;have ar: ¬(n:Int)<(n:Int):=J
   have ah:=bc.out;rw[bS (fQ ao.out),lN]at ah;obtain⟨rfl,rfl⟩:=kk .. ▸ah;have ba:=(d.out.blk.cell 0).trans b9.out;clear bc ah hlt aX
   go_upto_region 10 with fail
   clear ar ba;have bI:=bJ
   go_loopw [3,37] (λaM ag wr=> ∃(j:Nat) (F:Int) (ap ls:List (Nm×Int)),ag=.int .i64 (j:Int)/\aM=.int .i64 F/\j<=n/\(0<=F/\F<=4*n+1000000*j)/\Hid (DE w c A bs X ap ls wr)/\Hid (qe (a.drop j) F ap=(az,aC))/\Hid (pI (a.drop j) ls=aA)) (λ_ ag _=>n-(intOf ag).toNat)
   case atStart=>exact⟨0,aa,_,_,rfl,rfl,aD _,⟨bp,by omega⟩,d,bI,bw⟩
   case round=>
    obtain⟨j,F,ap,ls,rfl,rfl,aX,⟨cn,cm⟩,z,af,bb⟩:=hrel;clear d bI bJ bw bp bX;generalize wr=al at*;by_cases hlt:j<n
    ·have ar:(j:Int)<(n:Int):=J
     have y:j<a.length:=by rw[ao.out];exact hlt
     obtain⟨bL,c',aT,a2⟩:=bx.out;injection aT with aS aR aQ;subst aS aQ;clear aR;rcases a2 with aU|⟨_,_,b,o,rfl,hPb,hbw,hcell⟩
     ·rw[aU]at y;simp at y
     have e0:=(aF.out _ z.out.mv).cell (o+j*2) hPb hbw|>.trans (hcell j y).1;have am:=(aF.out _ z.out.mv).cell (o+j*2+1) hPb hbw|>.trans (hcell j y).2;obtain⟨aN,bV,bU⟩:=bG.out _ (ax y);have aG:=G ((BH y).symm.trans af.out);have aE:=G ((AW y).symm.trans bb.out);generalize a[j]=v at*;clear hcell;have bn:=ay aN (show 1000000000<=maxLen by decide);by_cases hz:0<v.sz
     ·rw[if_pos hz]at aG aE;have ck:IntKind.i64.wrap (F+v.sz)=F+v.sz:=Qc
      go_upto_region 12 with fail
      generalize R:World.alloc al _=W1;obtain⟨V,u,_⟩:=lC R;replace u:=G (show aO W1 al.heap.size _ _/\A<al.heap.size/\bs<al.heap.size from⟨u.out,z.out.p.1.lt,z.out.s.1.lt⟩);replace z:=G (z.out.ext V);clear R V e0 am;have ai:=u.out.1.cell
      go_upto_region 13 with fail
      have ad:=G (z.out.ext (eR (aI W1)));have ct:=(ad.out.blk.cell 4).trans bK.out;have cs:=(ad.out.blk.cell 5).trans b8.out;have cu:=(u.out.1.ext (eR (aI W1))).cell;obtain⟨ce,cf,aL,bT,H,b4,bh⟩:=ad.out.p.entry xn bn;obtain⟨ca,bR,aP,aY⟩:=bh aL (.int .i64 F) rfl;have av:=an H aY;have bf:=ad.out.s.obj (av.block _ ad.out.s.1.lt (λe=>aV (I e).symm));obtain⟨cd,uC,bO,bQ,a1,b5,bi⟩:=bf.entry xn bn;obtain⟨bN,bP,bg,aZ⟩:=bi bO (.int .i64 v.sz) rfl;have au:=an a1 aZ;have aJ:=(u.out.1.ext (eR (aI W1))).grown H (λe=>by have:=u.out.2;injection e with e;omega);have aH:=aJ.grown aY (λe=>by have:=u.out.2;injection e with e;omega);have aK:=aH.grown a1 (λe=>by have:=u.out.2;injection e with e;omega);have bd:=aK.grown aZ (λe=>by have:=u.out.2;injection e with e;omega);have ch:=aJ.cell;have ci:=bd.cell;have cg:=aH.cell;have cj:=aK.cell
      have b7:=G (show DE w c A bs X ((v.nm,F)::ap) ((v.nm,v.sz)::ls) bN from
       ⟨(ad.out.blk.grown av (λe=>br (I e))).grown au (λe=>bZ (I e)),(aP.obj (au.block _ aP.1.lt (λe=>aV (I e)))).congr (mE _ _ _),bg.congr (mE _ _ _),(ad.out.mv.trans (.of_grown av λk e=> .inl (I e).symm)).trans (.of_grown au λk e=> .inr (I e).symm)⟩)
      clear bh bi H aY av bf aP a1 aZ au bg aJ aH aK bd ad z u ai b4 b5;unfold goInt at bT bR bQ bP;go_region;all_goals
       go_wp2_with fail;go_roundw
       case rel=>exact⟨j+1,F+v.sz,_,_,by go_num,by go_num,by omega,⟨by omega,by omega⟩,b7,aG,aE⟩
       case measure=>simp[intOf];omega
     ·rw[if_neg hz]at aG aE
      go_upto_region 12 with fail
      generalize R:World.alloc al _=W1;obtain⟨V,u,_⟩:=lC R;replace z:=G (z.out.ext V);clear R V e0 am;have ai:=u.out.cell;go_wp2_with fail;go_roundw
      case rel=>exact⟨j+1,F,_,_,by go_num,rfl,by omega,⟨by omega,by omega⟩,z,aG,aE⟩
      case measure=>simp[intOf];omega
    ·have aW:n=j:=J
     subst aW;have ar: ¬(n:Int)<(n:Int):=J
     have ah:=af.out;rw[bS (fQ ao.out),qe]at ah;obtain⟨rfl,rfl⟩:=kk .. ▸ah;have bz:=bb.out;rw[bS (fQ ao.out),pI]at bz;subst bz;clear af bb ah hlt aX;go_wp2_with fail;go_ret;exact⟨rfl,z.out⟩
end Go.Proofs.YtoedmpgicdekmaaGreatDoor
