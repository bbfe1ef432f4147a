/-
  Parts of the proof: CoO.
-/
import Derived.Test.YtoedmpgicdekmaaGreatDoorCq00
import Derived.WideKeyEntry
import Derived.Test.YtoedmpgicdekmaaGreatDoorCq38
set_option maxRecDepth 100000
set_option maxHeartbeats 8000000
set_option linter.unusedVariables false
set_option linter.unusedSimpArgs false
set_option linter.unusedSectionVars false
namespace Go.Proofs.YtoedmpgicdekmaaGreatDoor
open Go.Proofs.Tryz
open Go.RowKit
open Go.ChangeMaps Go.MapKept Go.WideMaps Go.WideElems
def fX (w:World) (b:Nat) (L:KF):Prop:=b7 w b L/\ ∃es clock,w.heap[b]? =some (.map es clock)/\(∀x∈es.toList,x.born<clock)/\(es.toList.map (·.born)).Nodup
theorem fX.obj {w w':World} {b:Nat} {L:KF} (h:fX w b L) (he:w'.heap[b]? =w.heap[b]?):fX w' b L:=let⟨h1,es,c,h2,h3⟩:=h;⟨h1.obj he,es,c,he.trans h2,h3⟩
theorem fX.new (w:World):fX (w.alloc (.map #[] 0)) w.heap.size (fun _=>none):=⟨jj w,#[],0,(MapKept.heap_alloc w _).1,by simp,by simp⟩
theorem fX.congr {w:World} {b:Nat} {L M:KF} (h:fX w b L) (e: ∀s,L s=M s):fX w b M:=⟨h.1.congr e,h.2⟩
theorem td (es:Array MapEntry) (j:Nat) (f:MapEntry->MapEntry) (hf: ∀x,(f x).born=x.born):(es.modify j f).toList.map (·.born)=es.toList.map (·.born):=by
 rw[dM];apply eY;intro i;rw[cV,cV,dD];split
 ·cases es.toList[i]? <;>simp[hf]
 ·cases es.toList[i]? <;>simp
section
variable {P:Program} {t k e:TypeId} {z:Value} {w:World} {b:Nat} {L:KF}
theorem fX.store (hT:mO P t k e z) (h:fX w b L) {s:List UInt8} (hs:s.length<=maxLen) (v:Value):
  ∃w',(Instr.mapUpdate t (.map (some b)) (.string (an s)) v).run P w= .ok () w'/\fX w' b (L.upd s v)/\w.grownBy w' (some b):=by
 obtain⟨hM,es,c,hb,hs1,hs2⟩:=h;obtain⟨w',h1,h2,h3⟩:=hM.store hT hs v;refine⟨w',h1,⟨h2,?_⟩,h3⟩;obtain⟨es0,c0,hb0,hk,hL,hP⟩:=hM;rw[hb]at hb0;injection hb0 with hb0;injection hb0 with e1 e2;subst e1 e2;have K:=Go.Maps.string_keyed hT.key;have hkey:=lq hT hs;rcases K.find w hkey es.toList (oV hT hk)with⟨q1,q2⟩|⟨j,e0,q1,q2,q3⟩
 ·have hr:(Instr.mapUpdate t (.map (some b)) (.string (an s)) v).run P w= .ok () (setBlock w b (.map (es.push ⟨.string (an s),v,c⟩) (c+1))):=by
   simp[Instr.mapUpdate,run_underlying hT.map,MapKept.run_getObj_map hb,K.check w false hkey,q1,MapKept.run_setObj_map _ hb,Result.andThen,setBlock]
  rw[h1]at hr;injection hr with _ hr;subst hr;refine⟨_,_,heap_setBlock_same hb _,fun x hx=> ?_,?_⟩
  ·simp only[de,List.mem_append,dw]at hx;rcases hx with hx|rfl
   ·have:=hs1 x hx;omega
   ·exact dt _
  ·rw[de,fM,bS,db];refine List.nodup_append.2 ⟨hs2,by simp,fun a ha d hd e1=> ?_⟩;simp only[dw]at hd;obtain⟨x,hx,rfl⟩:=List.mem_map.1 ha;have:=hs1 x hx;omega
 ·obtain⟨s',_,h5,h6⟩:=hk e0 (ce q2);rw[q3]at h5;have h7:=nz h5;subst h7;have hj:es[j]? =some e0:=by simpa using q2
  have hr:(Instr.mapUpdate t (.map (some b)) (.string (an s)) v).run P w= .ok () (setBlock w b (.map (es.modify j (fun e'=>{e' with key:= .string (an s),val:=v})) c)):=by
   simp[Instr.mapUpdate,run_underlying hT.map,MapKept.run_getObj_map hb,K.check w false hkey,q1,hj,q3,K.stays w hkey,MapKept.run_setObj_map _ hb,Result.andThen,setBlock]
  rw[h1]at hr;injection hr with _ hr;subst hr;have hl:(es.modify j (fun e'=>{e' with key:= .string (an s),val:=v})).toList.map (·.born)=es.toList.map (·.born):=td es j _ fun _=>rfl;refine⟨_,_,heap_setBlock_same hb _,fun x hx=> ?_,by rw[hl];exact hs2⟩;have:x.born∈(es.modify j (fun e'=>{e' with key:= .string (an s),val:=v})).toList.map (·.born):=List.mem_map.2 ⟨x,hx,rfl⟩;rw[hl]at this;obtain⟨y,hy,e2⟩:=List.mem_map.1 this;rw[<-e2];exact hs1 y hy
theorem fX.entry (hT:mO P t k e z) (h:fX w b L) {s:List UInt8} (hs:s.length<=maxLen):
  ∃v0 st w1,(Instr.mapEntry t (.map (some b)) (.string (an s))).run P w= .ok (.tuple #[v0,goInt st]) w1/\w.grownBy w1 (some b)/\b<w1.heap.size/\
   ∀(w2:World) (v:Value),w2.heap[b]? =w1.heap[b]? -> ∃w3,(Instr.entryStore t (.map (some b)) (goInt st) v).run P w2= .ok () w3/\fX w3 b (L.upd s v)/\w2.grownBy w3 (some b):=by
 have hSt:=fun v=>h.store hT hs v;obtain⟨hM,es,c,hb,hs1,hs2⟩:=h;obtain⟨es0,c0,hb0,hk,hL,hP⟩:=hM;rw[hb]at hb0;injection hb0 with hb0;injection hb0 with e1 e2;subst e1 e2;have K:=Go.Maps.string_keyed hT.key;have hkey:=lq hT hs;have hbl:b<w.heap.size:=(Array.getElem?_eq_some_iff.1 hb).1;have hg: ∀(w:World) (es:Array MapEntry) (c:Nat) (_:w.heap[b]? =some (.map es c)) x,w.grownBy (setBlock w b x) (some b):=fun w es c ho x=>⟨rfl,rfl,rfl,by simp[setBlock],fun i _ hi=>heap_setBlock_other ho _ (fun e=>hi (by rw[e]))⟩
 have fin: ∀(es1 es2:Array MapEntry) (c1:Nat) (v:Value),(Instr.mapUpdate t (.map (some b)) (.string (an s)) v).run P w= .ok () (setBlock w b (.map es2 c1))-> ∀w2:World,w2.heap[b]? =some (.map es1 c1)->fX (setBlock w2 b (.map es2 c1)) b (L.upd s v):=fun es1 es2 c1 v hr w2 hw2=>by
  obtain⟨w',q1,q2,q3⟩:=hSt v;rw[hr]at q1;injection q1 with _ q1;subst q1;exact q2.obj ((heap_setBlock_same hw2 _).trans (heap_setBlock_same hb _).symm)
 rcases K.find w hkey es.toList (oV hT hk)with⟨q1,q2⟩|⟨j,e0,q1,q2,q3⟩
 ·refine⟨z,c,setBlock w b (.map (es.push ⟨.string (an s),z,c⟩) (c+1)),?_,hg w _ _ hb _,by simpa[setBlock]using hbl,fun w2 v hw2=>⟨setBlock w2 b (.map (es.push ⟨.string (an s),v,c⟩) (c+1)),?_,?_,?_⟩⟩
  ·simp[Instr.mapEntry,run_underlying hT.map,MapKept.run_getObj_map hb,K.check w false hkey,q1,hT.zero,MapKept.run_setObj_map _ hb,Result.andThen,setBlock]
  ·have hw2':=hw2.trans (heap_setBlock_same hb _);have hidx:(es.push ⟨.string (an s),z,c⟩).findIdx? (fun e=>((e.born:Nat):Int)==((c:Nat):Int))=some es.size:=by
    rw[findIdx_arr]
    exact findIdx_born (l:=(es.push ⟨.string (an s),z,c⟩).toList) (j:=es.size) (e0:=⟨.string (an s),z,c⟩) (by
     simp only[de,fM,bS,db];refine List.nodup_append.2 ⟨hs2,by simp,fun a ha d hd e1=> ?_⟩;simp only[dw]at hd;obtain⟨x,hx,rfl⟩:=List.mem_map.1 ha;have:=hs1 x hx
     omega) (by simp)
   have hmod:(es.push ⟨.string (an s),z,c⟩).modify es.size (fun e=>{e with val:=v})=es.push ⟨.string (an s),v,c⟩:=by
    apply jo;rw[dM,de,de,<-Array.length_toList,modify_last]
   simp[Instr.entryStore,MapKept.run_getObj_map hw2',asInt,asIntOf,goInt,hidx,hmod,MapKept.run_setObj_map _ hw2',Result.andThen,setBlock]
  ·refine fin _ _ _ v ?_ w2 (hw2.trans (heap_setBlock_same hb _));simp[Instr.mapUpdate,run_underlying hT.map,MapKept.run_getObj_map hb,K.check w false hkey,q1,MapKept.run_setObj_map _ hb,Result.andThen,setBlock]
  ·exact hg w2 _ _ (hw2.trans (heap_setBlock_same hb _)) _
 ·have hj:es[j]? =some e0:=by simpa using q2
  have hsame:es.modify j (fun e=>{e with key:= .string (an s)})=es:=by
   apply jo;rw[dM,modify_eq_set _ _ _ _ q2];have:({e0 with key:= .string (an s)}:MapEntry)=e0:=by rw[<-q3]
   rw[this];exact set_self _ _ _ q2
  refine⟨e0.val,e0.born,setBlock w b (.map es c),?_,hg w _ _ hb _,by simpa[setBlock]using hbl,fun w2 v hw2=>⟨setBlock w2 b (.map (es.modify j (fun e'=>{e' with key:= .string (an s),val:=v})) c),?_,?_,?_⟩⟩
  ·simp[Instr.mapEntry,run_underlying hT.map,MapKept.run_getObj_map hb,K.check w false hkey,q1,hj,q3,K.stays w hkey,hsame,MapKept.run_setObj_map _ hb,Result.andThen,setBlock]
  ·have hw2':=hw2.trans (heap_setBlock_same hb _);have hidx:es.findIdx? (fun e=>((e.born:Nat):Int)==((e0.born:Nat):Int))=some j:=by
    rw[findIdx_arr];exact findIdx_born hs2 q2
   have hmod:es.modify j (fun e=>{e with val:=v})=es.modify j (fun e'=>{e' with key:= .string (an s),val:=v}):=by
    apply jo;rw[dM,dM,modify_eq_set _ _ _ _ q2,modify_eq_set _ _ _ _ q2,<-q3]
   simp[Instr.entryStore,MapKept.run_getObj_map hw2',asInt,asIntOf,goInt,hidx,hmod,MapKept.run_setObj_map _ hw2',Result.andThen,setBlock]
  ·refine fin _ _ _ v ?_ w2 (hw2.trans (heap_setBlock_same hb _));simp[Instr.mapUpdate,run_underlying hT.map,MapKept.run_getObj_map hb,K.check w false hkey,q1,hj,q3,K.stays w hkey,MapKept.run_setObj_map _ hb,Result.andThen,setBlock]
  ·exact hg w2 _ _ (hw2.trans (heap_setBlock_same hb _)) _
theorem o_ {ops:Array Oper} {rest:List Oper} {o:Oper} {a:Act} {Q:Exit->Act->World->Prop} (hT:mO P t k e z) (hg:o.guard=none) (m x v:Operand) (hop:o.op=Op.mapUpdate t m x v)
  (h:fX w b L) (hm:a.eval m= .map (some b)) {s:List UInt8} (hs:s.length<=maxLen) (hx:a.eval x= .string (an s)) (u:Value) (hv:a.eval v=u)
  (hK: ∀w',fX w' b (L.upd s u)->w.grownBy w' (some b)->wpList P ops Q rest (a.put o.dst undef) w'):wpList P ops Q (o::rest) a w:=by
 refine wpList_plain hg fun K' hK'=> ?_;obtain⟨w',hrun,r1,r2⟩:=h.store hT hs u;unfold Oper.wp;simp[execOp,hop,hm,hx,hv,hrun,Result.andThen];exact hK' _ _ (hK w' r1 r2)
end
theorem yL {vs:List Vr} {j:Nat} {n:Int} {l:List (Nm×Int)} (h:j<vs.length):mq (vs.drop j) n l=if vs[j].sz=0 then mq (vs.drop (j+1)) (n+4) ((vs[j].nm,n)::l)else mq (vs.drop (j+1)) n l:=by rw[am h,mq]
theorem yM {vs:List Vr} {j:Nat} {n:Int} {l:List (Nm×Int)} (h:j<vs.length):qz (vs.drop j) n l=if 0<vs[j].sz then qz (vs.drop (j+1)) (n+vs[j].sz) ((vs[j].nm,n)::l)else qz (vs.drop (j+1)) n l:=by rw[am h,qz]
theorem x_ {vs:List Vr} {j:Nat} {l:List (Nm×Int)} (h:j<vs.length):qm (vs.drop j) l=if 0<vs[j].sz then qm (vs.drop (j+1)) ((vs[j].nm,vs[j].sz)::l)else qm (vs.drop (j+1)) l:=by rw[am h,qm]
structure AB (w0:World) (c bp bs:Nat) (cs:Array Value) (lp ls:List (Nm×Int)) (w:World):Prop where
 blk:aP w c 95 cs
 p:fX w bp (fF lp)
 s:fX w bs (fF ls)
 mv:Mv (fun b=>b=bp\/b=bs) w0 w
theorem AB.ext {w0 w w':World} {c bp bs:Nat} {cs:Array Value} {lp ls:List (Nm×Int)} (h:AB w0 c bp bs cs lp ls w) (he:au w w'):AB w0 c bp bs cs lp ls w':=
 ⟨h.blk.ext he,h.p.obj (he.obj h.p.1.lt),h.s.obj (he.obj h.s.1.lt),h.mv.trans (.of_ext he)⟩
theorem wV (w:World) (c base bp bs:Nat) (A:Option Addr) (n d:Nat) (vs:List Vr) (cs:Array Value) (hB:aP w c 95 cs) (h0:cs[0]? =some (.slice A n d)) (h4:cs[4]? =some (.map (some bp))) (h5:cs[5]? =some (.map (some bs)))
  (hV:nG w (fun b=>b<base) (.slice A n d) vs) (hp:fX w bp (fF [])) (hs:fX w bs (fF [])) (hbp:base<=bp) (hbs:base<=bs) (hne:bp≠bs) (hcp:c≠bp) (hcs:c≠bs) (hok: ∀v∈vs,v.nm.length<=1000000000/\0<=v.sz/\v.sz<=1000000) (hl:vs.length<=1000000):
  Calls prog 31 #[.pointer (some ⟨c,0,none⟩)] w fun e w'=>e= .returned (.int .i64 (qz vs (mq vs 0 []).1 (mq vs 0 []).2).1)/\AB w c bp bs cs (qz vs (mq vs 0 []).1 (mq vs 0 []).2).2 (qm vs []) w':=by
 have hnl:vs.length=n:=by obtain⟨A',c',e,_⟩:=hV;injection e with _ e _;exact e.symm
 have HV:=G hV;have HNL:=G hnl;have HOK:=G hok;have hnn:(n:Int)<=1000000:=by omega
 obtain⟨NI,LI,hI⟩: ∃NI LI,mq vs 0 []=(NI,LI):=⟨_,_,rfl⟩
 obtain⟨NA,LA,hA⟩: ∃NA LA,qz vs NI LI=(NA,LA):=⟨_,_,rfl⟩
 obtain⟨LZ,hZ⟩: ∃LZ,qm vs []=LZ:=⟨_,rfl⟩
 rw[hI];simp only;rw[hA,hZ];simp only;have HI:=G (show mq (vs.drop 0) 0 []=(NI,LI)from hI);have HA:=G (show qz (vs.drop 0) NI LI=(NA,LA)from hA);have HZ:=G (show qm (vs.drop 0) []=LZ from hZ);have HQ0:=G (show AB w c bp bs cs [] [] w from⟨hB,hp,hs,fA _ _⟩);have HK:=G (fun W (h:Mv (fun b=>b=bp\/b=bs) w W)=>show dm (fun b=>b<base) w W from h.keepP fun b hb _ e=>by omega);have f0:=(hB.cell 0).trans h0;have H4:=G h4;have H5:=G h5;have H0:=G h0;clear hB h0 h4 h5 hV hp hs hok hl hnl hI hA hZ;go_enter func31,ntmps31
 go_upto_region 3 with fail
 clear f0
 go_loopw [3,14] (fun v3 vi wr=> ∃(j:Nat) (n1:Int) (l1:List (Nm×Int)),vi= .int .i64 (j:Int)/\v3= .int .i64 n1/\j<=n/\(0<=n1/\n1<=4*j)/\Hid (AB w c bp bs cs l1 [] wr)/\Hid (mq (vs.drop j) n1 l1=(NI,LI))) (fun _ vi _=>n-(intOf vi).toNat)
 case atStart=>exact⟨0,0,_,rfl,rfl,aC _,⟨by decide,by decide⟩,HQ0,HI⟩
 case round=>
  obtain⟨j,n1,l1,rfl,rfl,hj,⟨hn1,hn2⟩,HQ1,HD1⟩:=hrel;clear HQ0 HI;generalize wr=wz at*;by_cases hlt:j<n
  ·have hlt':(j:Int)<(n:Int):=by omega
   have hjx:j<vs.length:=by rw[HNL.out];exact hlt
   obtain⟨A',c',hv,hcs'⟩:=HV.out;injection hv with hv1 hv2 hv3;subst hv1 hv3;clear hv2;rcases hcs' with hnil|⟨_,_,b,o,rfl,hPb,hbw,hcell⟩
   ·rw[hnil]at hjx;simp at hjx
   have e0:=(HK.out _ HQ1.out.mv).cell (o+j*2) hPb hbw|>.trans (hcell j hjx).1;have e1:=(HK.out _ HQ1.out.mv).cell (o+j*2+1) hPb hbw|>.trans (hcell j hjx).2;obtain⟨ok1,ok2,ok3⟩:=HOK.out _ (ap hjx);have HD2:=G ((yL hjx).symm.trans HD1.out);generalize vs[j]=v at*;clear hcell;by_cases hz:v.sz=0
   ·rw[if_pos hz]at HD2
    go_upto_region 5 with fail
    generalize hW:World.alloc wz _=W1;obtain⟨hE1,y0,_⟩:=jm hW;replace HQ1:=G (HQ1.out.ext hE1);clear hW hE1 e0 e1;have c0:=y0.out.cell;have hz':(v.sz==0)=true:=beq_iff_eq.2 hz;clear hz
    go_upto_region 6 with fail
    refine ay 7 1 [] mixed (by kernel_rfl) trivial ?_;repeat (refine sx ?_ (fun w1 hU=> ?_) ?_;rotate_left;(focus have f4:=((HQ1.out.blk.ext hU.un).cell 4).trans H4.out;have c0:=(y0.out.ext hU.un).cell;clear hU;go_simp<;>with_reducible rfl);simp only[bH,bG,bF,bE,bD])
    intro w7 hw7 _;replace HQ1:=G (HQ1.out.ext hw7.un);clear hw7 y0 c0;simp only[ac,aq];go_wp2_with (at_mapUpdate;refine o_ ud rfl _ _ _ rfl (s:=v.nm) HQ1.out.p rfl (ax ok1 (by decide)) rfl _ rfl ?_;intro w8 hm8 hg8;have HQ2:=G (show AB w c bp bs cs ((v.nm,n1)::l1) [] w8 from⟨HQ1.out.blk.grown hg8 (fun e=>hcp (ai e)),hm8.congr (kE _ _ _),HQ1.out.s.obj (hg8.block _ HQ1.out.s.1.lt (fun e=>hne (ai e).symm)),HQ1.out.mv.trans (.of_grown hg8 fun k e=> .inl (ai e).symm)⟩);clear hm8 hg8 HQ1);go_roundw
    case rel=>exact⟨j+1,n1+4,_,by go_num,by go_num,by omega,⟨by omega,by omega⟩,HQ2,HD2⟩
    case measure=>simp[intOf];omega
   ·rw[if_neg hz]at HD2
    go_upto_region 5 with fail
    generalize hW:World.alloc wz _=W1;obtain⟨hE1,y0,_⟩:=jm hW;replace HQ1:=G (HQ1.out.ext hE1);clear hW hE1 e0 e1;have c0:=y0.out.cell;have hz':(v.sz==0)=false:=beq_eq_false_iff_ne.2 hz;clear hz;go_wp2_with fail;go_roundw
    case rel=>exact⟨j+1,n1,_,by go_num,rfl,by omega,⟨by omega,by omega⟩,HQ1,HD2⟩
    case measure=>simp[intOf];omega
  ·have hjN:n=j:=by omega
   subst hjN;have hlt': ¬(n:Int)<(n:Int):=by omega
   have HSx:=HD1.out;rw[bJ (eh HNL.out),mq]at HSx;obtain⟨rfl,rfl⟩:=iL .. ▸HSx;have f0:=(HQ1.out.blk.cell 0).trans H0.out;clear HD1 HSx hlt hj
   go_upto_region 10 with fail
   clear hlt' f0;have HA0:=HA
   go_loopw [3,37] (fun v3 vi wr=> ∃(j:Nat) (n2:Int) (l2 ls:List (Nm×Int)),vi= .int .i64 (j:Int)/\v3= .int .i64 n2/\j<=n/\(0<=n2/\n2<=4*n+1000000*j)/\Hid (AB w c bp bs cs l2 ls wr)/\Hid (qz (vs.drop j) n2 l2=(NA,LA))/\Hid (qm (vs.drop j) ls=LZ)) (fun _ vi _=>n-(intOf vi).toNat)
   case atStart=>exact⟨0,n1,_,_,rfl,rfl,aC _,⟨hn1,by omega⟩,HQ1,HA0,HZ⟩
   case round=>
    obtain⟨j,n2,l2,ls,rfl,rfl,hj,⟨hm1,hm2⟩,HQ2,HD2,HZ2⟩:=hrel;clear HQ1 HA0 HA HZ hn1 hn2;generalize wr=wy at*;by_cases hlt:j<n
    ·have hlt':(j:Int)<(n:Int):=by omega
     have hjx:j<vs.length:=by rw[HNL.out];exact hlt
     obtain⟨A',c',hv,hcs'⟩:=HV.out;injection hv with hv1 hv2 hv3;subst hv1 hv3;clear hv2;rcases hcs' with hnil|⟨_,_,b,o,rfl,hPb,hbw,hcell⟩
     ·rw[hnil]at hjx;simp at hjx
     have e0:=(HK.out _ HQ2.out.mv).cell (o+j*2) hPb hbw|>.trans (hcell j hjx).1;have e1:=(HK.out _ HQ2.out.mv).cell (o+j*2+1) hPb hbw|>.trans (hcell j hjx).2;obtain⟨ok1,ok2,ok3⟩:=HOK.out _ (ap hjx);have HD3:=G ((yM hjx).symm.trans HD2.out);have HZ3:=G ((x_ hjx).symm.trans HZ2.out);generalize vs[j]=v at*;clear hcell;have hnm:=ax ok1 (show 1000000000<=maxLen by decide);by_cases hz:0<v.sz
     ·rw[if_pos hz]at HD3 HZ3;have hwn:IntKind.i64.wrap (n2+v.sz)=n2+v.sz:=by simp[IntKind.wrap,IntKind.signed,IntKind.bits];omega
      go_upto_region 12 with fail
      generalize hW:World.alloc wy _=W1;obtain⟨hE1,y0,_⟩:=jm hW;replace y0:=G (show aP W1 wy.heap.size _ _/\bp<wy.heap.size/\bs<wy.heap.size from⟨y0.out,HQ2.out.p.1.lt,HQ2.out.s.1.lt⟩);replace HQ2:=G (HQ2.out.ext hE1);clear hW hE1 e0 e1;have c0:=y0.out.1.cell
      go_upto_region 13 with fail
      have HQd:=G (HQ2.out.ext (d9 (aG W1)));have d4:=(HQd.out.blk.cell 4).trans H4.out;have d5:=(HQd.out.blk.cell 5).trans H5.out;have cd:=(y0.out.1.ext (d9 (aG W1))).cell;obtain⟨v0,st,w8,r1,hg8,hb8,k8⟩:=HQd.out.p.entry ud hnm;obtain⟨w9,r2,m9,hg9⟩:=k8 w8 (.int .i64 n2) rfl;have hg89:=bm hg8 hg9;have s9:=HQd.out.s.obj (hg89.block _ HQd.out.s.1.lt (fun e=>hne (ai e).symm));obtain⟨v1,rO,w10,r3,hg10,hb10,k10⟩:=s9.entry ud hnm;obtain⟨w11,r4,m11,hg11⟩:=k10 w10 (.int .i64 v.sz) rfl;have hgF:=bm hg10 hg11;have y8:=(y0.out.1.ext (d9 (aG W1))).grown hg8 (fun e=>by have:=y0.out.2;injection e with e;omega);have y9:=y8.grown hg9 (fun e=>by have:=y0.out.2;injection e with e;omega);have y10:=y9.grown hg10 (fun e=>by have:=y0.out.2;injection e with e;omega);have y11:=y10.grown hg11 (fun e=>by have:=y0.out.2;injection e with e;omega);have q8:=y8.cell;have q11:=y11.cell;have q9:=y9.cell;have q10:=y10.cell
      have HQF:=G (show AB w c bp bs cs ((v.nm,n2)::l2) ((v.nm,v.sz)::ls) w11 from
       ⟨(HQd.out.blk.grown hg89 (fun e=>hcp (ai e))).grown hgF (fun e=>hcs (ai e)),(m9.obj (hgF.block _ m9.1.lt (fun e=>hne (ai e)))).congr (kE _ _ _),m11.congr (kE _ _ _),(HQd.out.mv.trans (.of_grown hg89 fun k e=> .inl (ai e).symm)).trans (.of_grown hgF fun k e=> .inr (ai e).symm)⟩)
      clear k8 k10 hg8 hg9 hg89 s9 m9 hg10 hg11 hgF m11 y8 y9 y10 y11 HQd HQ2 y0 c0 hb8 hb10;unfold goInt at r1 r2 r3 r4;go_region;all_goals
       go_wp2_with fail;go_roundw
       case rel=>exact⟨j+1,n2+v.sz,_,_,by go_num,by go_num,by omega,⟨by omega,by omega⟩,HQF,HD3,HZ3⟩
       case measure=>simp[intOf];omega
     ·rw[if_neg hz]at HD3 HZ3
      go_upto_region 12 with fail
      generalize hW:World.alloc wy _=W1;obtain⟨hE1,y0,_⟩:=jm hW;replace HQ2:=G (HQ2.out.ext hE1);clear hW hE1 e0 e1;have c0:=y0.out.cell;go_wp2_with fail;go_roundw
      case rel=>exact⟨j+1,n2,_,_,by go_num,rfl,by omega,⟨by omega,by omega⟩,HQ2,HD3,HZ3⟩
      case measure=>simp[intOf];omega
    ·have hjN:n=j:=by omega
     subst hjN;have hlt': ¬(n:Int)<(n:Int):=by omega
     have HSx:=HD2.out;rw[bJ (eh HNL.out),qz]at HSx;obtain⟨rfl,rfl⟩:=iL .. ▸HSx;have HSz:=HZ2.out;rw[bJ (eh HNL.out),qm]at HSz;subst HSz;clear HD2 HZ2 HSx hlt hj;go_wp2_with fail;go_ret;exact⟨rfl,HQ2.out⟩
end Go.Proofs.YtoedmpgicdekmaaGreatDoor
