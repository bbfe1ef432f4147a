/-
  Parts of the proof: TyY TyA.
-/
import Derived.Test.YtddomeddabfinaaGreatDoorTl24
import Derived.Test.YtddomeddabfinaaGreatDoorTl25
import Derived.BigQuiet
import Derived.Test.YtddomeddabfinaaGreatDoorTl00
import Derived.Test.YtddomeddabfinaaGreatDoorTl03
set_option maxRecDepth 100000
set_option maxHeartbeats 8000000
set_option linter.unusedVariables false
set_option linter.unusedSimpArgs false
set_option linter.unusedSectionVars false
namespace Go.Proofs.YtddomeddabfinaaGreatDoor
open Go.Proofs.Tryz
def numE (n:Int):Ex:=if 0<=n then .mk 1 [] [] [] n []else .mk 7 [45] [] [] 0 [.mk 6 [45] [] [] 0 [.mk 1 [] [] [] (-(n+1)) []], .mk 1 [] [] [] 1 []]
def numC (n:Int):Nat:=if 0<=n then 1 else 4
def Ms.spend (s:Ms) (k:Nat):Ms:={s with left:=s.left-k}
theorem numE_ok {n:Int} (h:I32 n):(numE n).ok=true:=by
 unfold I32 at h;unfold numE;split
 ·rename_i h0;simp[Ex.ok,okL,h0];omega
 ·simp[Ex.ok,okL,lev];omega
theorem numE_wt (n:Int):(numE n).wt<=6:=by
 unfold numE;split<;>simp[Ex.wt,wtL]
theorem numE_dep (n:Int):(numE n).dep<=3:=by
 unfold numE;split<;>simp[Ex.dep,depL]
theorem numE_ck (g:Gl) (lo:Ls) (n:Int):ckE g lo (numE n)= .ok ():=by
 unfold numE;split<;>simp[ckE,ckL,CR.then]
theorem numE_need (n:Int):need (numE n)<=2:=by
 unfold numE;split
 ·simp[need]
 ·simp[need,needM,needB,lgOp]
theorem ev_one (C:Cx) (m:Nat) (s:Ms) (l:Lo) (v:Int) (h:s.left≠0) (hv:I32 v):ev C (m+1) s l (.mk 1 [] [] [] v [])= .ok (v,s.step):=by
 rw[ev_k1 h,w32_id hv]
theorem ev_num (C:Cx) (m:Nat) (s:Ms) (l:Lo) (n:Int) (h:4<=s.left) (hn:I32 n):ev C (m+3) s l (numE n)= .ok (n,s.spend (numC n)):=by
 have hn':=hn;unfold I32 at hn';unfold numE numC;split
 ·rw[ev_one C (m+2) s l n (by omega) hn];rfl
 ·rename_i h0;have e1:ev C (m+1) s.step.step l (.mk 1 [] [] [] (-(n+1)) [])= .ok (-(n+1),s.step.step.step):=ev_one C m _ l _ (by simp only[Ms.step];omega) (by unfold I32;omega);have e2:ev C (m+2) s.step l (.mk 6 [45] [] [] 0 [.mk 1 [] [] [] (-(n+1)) []])= .ok (n+1,s.step.step.step):=by
   rw[ev_k6 (by simp only[Ms.step];omega)];show(ev C (m+1) s.step.step l (.mk 1 [] [] [] (-(n+1)) [])).then _=_;rw[e1,er_ok,if_neg (by decide)];have:w32 (-(-(n+1)))=n+1:=by rw[w32_id (by unfold I32;omega)];omega
   rw[this]
  have e3:ev C (m+2) s.step.step.step l (.mk 1 [] [] [] 1 [])= .ok (1,s.step.step.step.step):=ev_one C (m+1) _ l 1 (by simp only[Ms.step];omega) (by decide);rw[ev_k7 (by omega)];show(ev C (m+2) s.step l (.mk 6 [45] [] [] 0 [.mk 1 [] [] [] (-(n+1)) []])).then _=_;rw[e2,er_ok,if_neg (by simp[isAnd]),if_neg (by simp[isOr])];show(ev C (m+2) s.step.step.step l (.mk 1 [] [] [] 1 [])).then _=_;rw[e3,er_ok,if_neg (by decide)];show binL [45] (n+1) 1 _=_;unfold binL;rw[if_neg (by decide),if_pos rfl,w32_id (by unfold I32;omega)];have:n+1-1=n:=by omega
  rw[this];rfl
def retT (x:Ex):Pg:=⟨[],[⟨tyMain,[],[.mk 6 [] [x] [] []]⟩]⟩
theorem retT_ok {x:Ex} (h:x.ok=true) (hd:x.dep<=19) (hw:x.wt<=200):okPg (retT x)=true:=by
 have hb:okS [.mk 6 [] [x] [] []]=true:=by simp[okS,St.ok,okL,h]
 have hf:okF ⟨tyMain,[],[.mk 6 [] [x] [] []]⟩=true:=by
  have h1:isNm tyMain=true:=by decide
  have h2:(St.mk 6 [] [x] [] []).dep<=20:=by simp[St.dep,depL,depS];omega
  unfold okF;rw[h1];simp only[okS,Bool.and_true]at hb;simp[h2,hb]
 have hs:(srcP (retT x)).length<=4000:=by
  have:=srcE_len x h;have e:srcP (retT x)=[102,117,110,99,32,109,97,105,110,40,41,32,123,10,9,114,101,116,117,114,110,32]++(srcE x++[59,10,125,10]):=by
   simp[srcP,retT,srcF,srcSs,srcSt,shapeS,srcs,blkS,tabs,joinS,tyMain,tFunc,tReturn]
  rw[e];simp only[List.length_append,List.length_cons,List.length_nil];omega
 unfold okPg;rw[show(retT x).vs.all okV=true from rfl,show(retT x).fs.all okF=true from by simp[retT,hf],decide_eq_true hs];rfl
theorem retT_ck {x:Ex} (h: ∀g lo,g.arr=(fun _=>none)->ckE g lo x= .ok ()) (hn:need x<=7):ckAll (retT x)= .ok ():=by
 have h1:tops (retT x)= .ok (noGl.addF ⟨tyMain,[],[.mk 6 [] [x] [] []]⟩):=by
  have h2:noGl.known noLs tyMain=false:=by decide
  simp only[tops,retT,topV,topF,cr_ok,h2];simp[CR.then,Gl.addF]
 have h2:ckFs (noGl.addF ⟨tyMain,[],[.mk 6 [] [x] [] []]⟩) (retT x).fs= .ok ():=by
  have h3: ∀g lo,g.arr=(fun _=>none)->ckSs g lo [.mk 6 [] [x] [] []]= .ok lo:=fun g lo hg=>by
   rw[ckSs,ckSt,if_neg (by decide),if_neg (by decide),if_neg (by decide),ckL,h g lo hg];rfl
  show ckFs _ [⟨tyMain,[],[.mk 6 [] [x] [] []]⟩]=_;rw[ckFs];show CR.then (ckSs _ noLs [.mk 6 [] [x] [] []]) _=_;rw[h3 _ _ rfl];rfl
 have h4:ckLim (retT x).fs= .ok ():=by
  show ckLim [⟨tyMain,[],[.mk 6 [] [x] [] []]⟩]=_;rw[ckLim,if_neg (by simp[decL',decS,ndL,ndS];omega)];rfl
 unfold ckAll;rw[h1,cr_ok,h2,cr_ok,h4]
def ms1 (n k:Nat):Ms:=⟨fun _=>0,fun _=>[],n,k,0⟩
theorem run_ret (k n:Nat) (x:Ex) (R:Rs):runF (retT x) R (k+1) (n+1)=match ev (cx (retT x) R) k (ms1 n 32) (fun _=>none) x with
  | .error o=>o
  | .ok (v,s)=>match R[s.used]? with
   |none=>⟨1,0,v%256,0,0,[],s.used⟩
   |some _=>⟨3,0,0,0,0,[],s.used+1⟩:=by
 have h0:fn0 (retT x).fs tyMain=⟨tyMain,[],[.mk 6 [] [x] [] []]⟩:=by simp[retT,fn0]
 generalize hC:cx (retT x) R=C;have hR:C.R=R:=by rw[<-hC];rfl
 have hs:st C (k+1) ⟨fun _=>0,fun _=>[],n+1,32,0⟩ (fun _=>none) (.mk 6 [] [x] [] [])=(ev C k (ms1 n 32) (fun _=>none) x).then fun v s=> .ok ((some v,fun _=>none),s):=by
  rw[st_k6 (by simp)];rfl
 have hfr:frameL ⟨tyMain,[],[.mk 6 [] [x] [] []]⟩=32:=by simp[frameL,decL',decS]
 have hl:defL (loP (fun _=>none) [] []) [.mk 6 [] [x] [] []]=fun _=>none:=by simp[defL,defS,loP]
 have hc:callF (fun s l y=>st C (k+1) s l y) ⟨tyMain,[],[.mk 6 [] [x] [] []]⟩ [] (ms0 (retT x) (n+1))=(ev C k (ms1 n 32) (fun _=>none) x).then fun v s=> .ok (v,{s with stk:=s.stk-32}):=by
  unfold callF;rw[hfr,if_neg (by show ¬1024<0+32;decide)];simp only[hl];show(ssL (fun s l y=>st C (k+1) s l y) ⟨fun _=>0,fun _=>[],n+1,32,0⟩ (fun _=>none) [.mk 6 [] [x] [] []]).then _=_;simp only[ssL];rw[hs]
  cases ev C k (ms1 n 32) (fun _=>none) x with
  |error o=>rfl
  |ok p=>rfl
 unfold runF;rw[h0,hC,hc]
 cases ev C k (ms1 n 32) (fun _=>none) x with
 |error o=>rfl
 |ok p=>
  obtain⟨v,s⟩:=p;simp only[ER.then,sysL]
  cases R[s.used]? with
  |none=>rfl
  |some r=>rfl
def binE (op:List UInt8) (a b:Ex):Ex:= .mk 7 op [] [] 0 [a,b]
theorem binE_ok {op:List UInt8} {a b:Ex} (h:0<lev op) (ha:a.ok=true) (hb:b.ok=true):(binE op a b).ok=true:=by
 simp[binE,Ex.ok,okL,ha,hb,h]
def tTime:List UInt8:=[116,105,109,101]
def timeE:Ex:= .mk 5 [] tTime [] 0 []
theorem ev_time {C:Cx} {m:Nat} {s:Ms} {l:Lo} (h:s.left≠0):ev C (m+1) s l timeE=(sysL C.R s.step 18 0 0 0 []).then fun r s=> .ok (w32 r.1,s):=by
 rw[timeE,ev_k5 h,show bltn tTime=some (18,[])from by decide];rfl
def lgE (or:Bool) (a:Int):Ex:=binE (if or=true then[124,124]else[38,38]) (numE a) timeE
theorem lgE_ok {or:Bool} {a:Int} (h:I32 a):(lgE or a).ok=true:=by
 refine binE_ok (by cases or<;>decide) (numE_ok h) ?_;decide
theorem lgE_dep (or:Bool) (a:Int):(lgE or a).dep<=19:=by
 have:=numE_dep a;simp only[lgE,binE,timeE,Ex.dep,depL];omega
theorem lgE_wt (or:Bool) (a:Int):(lgE or a).wt<=200:=by
 have:=numE_wt a
 cases or<;>simp[lgE,binE,timeE,Ex.wt,wtL,tTime]<;>omega
theorem lgE_need (or:Bool) (a:Int):need (lgE or a)<=7:=by
 have:=numE_need a
 cases or<;>simp[lgE,binE,timeE,need,needB,needC,lgOp]<;>omega
theorem lgE_ck (or:Bool) (a:Int) (g:Gl) (lo:Ls):ckE g lo (lgE or a)= .ok ():=by
 have h:ckE g lo timeE= .ok ():=by
  rw[timeE,ckE,if_neg (by decide),if_neg (by decide),if_neg (by decide),if_pos rfl,show arity g tTime=some 0 from by unfold arity;rw[show bltn tTime=some (18,[])from by decide];rfl];rfl
 rw[lgE,binE,ckE,if_neg (by decide),if_neg (by decide),if_neg (by decide),if_neg (by decide),if_pos (.inr rfl),ckL,numE_ck,cr_ok,ckL,h];rfl
theorem run_lg (or:Bool) (a:Int) (ha:I32 a) (R:Rs):runL (retT (lgE or a)) R 100=
  if(decide (a≠0))=or then(match R[0]? with|none=>⟨1,0,word or,0,0,[],0⟩|some _=>⟨3,0,0,0,0,[],1⟩)
  else match R[0]? with
   |none=>⟨1,18,0,0,0,[],0⟩
   |some r=>match R[1]? with
    |none=>⟨1,0,word (w32 r.1 !=0),0,0,[],1⟩
    |some _=>⟨3,0,0,0,0,[],2⟩:=by
 show runF (retT (lgE or a)) R (199+1) (99+1)=_;rw[run_ret 199 99];have hc:numC a<=4:=by unfold numC;split<;>omega
 have e1:=ev_num (cx (retT (lgE or a)) R) 195 (ms1 99 32).step (fun _=>none) a (by decide) ha;generalize hC:cx (retT (lgE or a)) R=C at*;have hR:C.R=R:=by rw[<-hC];rfl
 have e2:ev C 198 ((ms1 99 32).step.spend (numC a)) (fun _=>none) timeE=(sysL R ((ms1 99 32).step.spend (numC a)).step 18 0 0 0 []).then fun r s=> .ok (w32 r.1,s):=by
  rw[<-hR];exact ev_time (m:=197) (by simp only[Ms.spend,Ms.step,ms1];omega)
 have e3:ev C 199 (ms1 99 32) (fun _=>none) (lgE or a)=if(decide (a≠0))=or then .ok (word or,(ms1 99 32).step.spend (numC a))else((sysL R ((ms1 99 32).step.spend (numC a)).step 18 0 0 0 []).then fun r s=> .ok (word (w32 r.1 !=0),s):ER Int):=by
  have hl:(ms1 99 32).left≠0:=by decide
  cases or with
  |true=>
   rw[lgE,binE,if_pos rfl,ev_k7 (n:=198) hl];show(ev C 198 (ms1 99 32).step (fun _=>none) (numE a)).then _=_;rw[e1,er_ok,if_neg (by simp[isAnd])];by_cases h0:a=0
   ·rw[if_neg (by simp[h0]),if_neg (by simp[h0])];show(ev C 198 ((ms1 99 32).step.spend (numC a)) (fun _=>none) timeE).then _=_;rw[e2]
    cases sysL R ((ms1 99 32).step.spend (numC a)).step 18 0 0 0 []<;>rfl
   ·rw[if_pos ⟨rfl,h0⟩,if_pos (by simp[h0])];rfl
  |false=>
   rw[lgE,binE,if_neg (by decide),ev_k7 (n:=198) hl];show(ev C 198 (ms1 99 32).step (fun _=>none) (numE a)).then _=_;rw[e1,er_ok];by_cases h0:a=0
   ·rw[if_pos ⟨rfl,h0⟩,if_pos (by simp[h0])];rfl
   ·rw[if_neg (by simp[h0]),if_neg (by simp[isOr]),if_neg (by simp[h0])];show(ev C 198 ((ms1 99 32).step.spend (numC a)) (fun _=>none) timeE).then _=_;rw[e2]
    cases sysL R ((ms1 99 32).step.spend (numC a)).step 18 0 0 0 []<;>rfl
 rw[e3];by_cases h:(decide (a≠0))=or
 ·rw[if_pos h,if_pos h];show(match R[0]? with|none=>(⟨1,0,word or%256,0,0,[],0⟩:Oc)|some _=>⟨3,0,0,0,0,[],0+1⟩)=_
  cases or<;>rfl
 ·rw[if_neg h,if_neg h];have hu:((ms1 99 32).step.spend (numC a)).step.used=0:=rfl;unfold sysL;rw[hu]
  cases R[0]? with
  |none=>rfl
  |some r=>
   have hw:word (w32 r.1 !=0)%256=word (w32 r.1 !=0):=by cases (w32 r.1 !=0)<;>rfl
   show(match R[1]? with|none=>(⟨1,0,word (w32 r.1 !=0)%256,0,0,[],1⟩:Oc)|some _=>⟨3,0,0,0,0,[],2⟩)=_;rw[hw]
end Go.Proofs.YtddomeddabfinaaGreatDoor
namespace Go.Proofs.YtddomeddabfinaaGreatDoor
open Go.Proofs.Tryz
open Go.RowKit
theorem Ext.drewN {a w:World} (h:Ext a w) (n:Nat):Ext a (w.drewN n):=h.trans ⟨rfl,rfl,rfl,Nat.le_refl _,fun _ _=>rfl⟩
def biC:Array Value:=(biT.flatMap fun x=>[.string (str x.1), .int .i64 x.2.1, .string (str x.2.2)]).toArray
def biA (i:Nat):List UInt8×Int×List UInt8:=biT.getD i ([],0,[])
def BT (w:World):Prop:= ∃t fr,w.heap[0]? =some (.cells biC t fr)
theorem BT.ext {w w':World} (h:BT w) (he:Ext w w'):BT w':=let⟨t,fr,h⟩:=h;⟨t,fr,(he.obj (Array.getElem?_eq_some_iff.1 h).1).trans h⟩
theorem BT.load {w:World} (h:BT w):(loadVar 142 ⟨0,0,none⟩).run prog w= .ok (.agg biC) w:=
 let⟨t,fr,h⟩:=h;run_loadVar_row w _ t _ biC fr _ h underlying142 rfl (by kernel_rfl)
theorem bi_index: ∀(i:Nat) (hi:i<19) (w:World),(Instr.index 142 (.agg biC) (.int .i64 (i:Int))).run prog w= .ok (.agg #[.string (str (biA i).1), .int .i64 (biA i).2.1, .string (str (biA i).2.2)]) w
 |0,_,w=>by kernel_rfl
 |1,_,w=>by kernel_rfl
 |2,_,w=>by kernel_rfl
 |3,_,w=>by kernel_rfl
 |4,_,w=>by kernel_rfl
 |5,_,w=>by kernel_rfl
 |6,_,w=>by kernel_rfl
 |7,_,w=>by kernel_rfl
 |8,_,w=>by kernel_rfl
 |9,_,w=>by kernel_rfl
 |10,_,w=>by kernel_rfl
 |11,_,w=>by kernel_rfl
 |12,_,w=>by kernel_rfl
 |13,_,w=>by kernel_rfl
 |14,_,w=>by kernel_rfl
 |15,_,w=>by kernel_rfl
 |16,_,w=>by kernel_rfl
 |17,_,w=>by kernel_rfl
 |18,_,w=>by kernel_rfl
 |n+19,h,_=>absurd h (by omega)
theorem wpList_load {P:Program} {w:World} {ops:Array Oper} {rest:List Oper} {o:Oper} {a:Act} {Q:Exit->Act->World->Prop} (hg:o.guard=none) (ty:TypeId) (x:Operand) (ho:o.op= .load ty x) (g:Nat) (hx:a.eval x= .pointer (some ⟨g,0,none⟩))
  (v:Value) (hl:(loadVar ty ⟨g,0,none⟩).run P w= .ok v w) (hK:wpList P ops Q rest (a.put o.dst v) w):wpList P ops Q (o::rest) a w:=by
 refine wpList_plain hg fun K' hK'=> ?_;unfold Oper.wp;simp[execOp,ho,Instr.loadAt,Instr.sureAddr,hx,hl,Result.andThen];exact hK' _ _ hK
theorem bltn_drop (s:List UInt8):bltn s=((biT.drop 0).find? (fun x=>x.1==s)).map (·.2):=rfl
theorem bi_step {s:List UInt8} {i:Nat} (hi:i<19):((biT.drop i).find? (fun x=>x.1==s)).map (·.2)=if(biA i).1==s then some (biA i).2 else((biT.drop (i+1)).find? (fun x=>x.1==s)).map (·.2):=by
 have hl:i<biT.length:=hi;have e:biT[i]=biA i:=by unfold biA;rw[List.getD_eq_getElem?_getD,List.getElem?_eq_getElem hl];rfl
 rw[List.drop_eq_getElem_cons hl,List.find?_cons,e]
 cases (biA i).1==s<;>rfl
def bltV:Bi->Ending
 |some (c,a)=> .returned (.tuple #[.int .i64 c, .string (str a), .bool true])
 |none=> .returned (.tuple #[.int .i64 0, .string (str []), .bool false])
theorem blt_any (s:List UInt8) (w:World) (h:BT w):Calls prog 22 #[.string (str s)] w fun e w'=>e=bltV (bltn s)/\Ext w w':=by
 have hld:=h.load;have HR:=hide (bltn_drop s);have HX0:=hide (Ext.refl w);clear h;generalize hC:biC=C at hld;have HC:=hide hC;clear hC;go_enter func22,ntmps22;go_wp2_with (refine wpList_load rfl 142 (.global 0) rfl _ rfl _ hld ?_);clear hld
 go_loopw [8] (fun vi wr=> ∃(j:Nat),vi= .int .i64 (j:Int)/\j<=19/\Hid (bltn s=((biT.drop j).find? (fun x=>x.1==s)).map (·.2))/\Hid (Ext w wr)) (fun vi _=>19-(intOf vi).toNat)
 case atStart=>exact⟨0,rfl,by omega,HR,HX0⟩
 case round=>
  obtain⟨j,rfl,hj,HQ,HX⟩:=hrel;by_cases hlt:j<19
  ·have hlt':(j:Int)<19:=by omega
   have hix:=bi_index j hlt wr;rw[HC.out]at hix;have HS:=hide (bi_step (s:=s) hlt);generalize biA j=y at*;obtain⟨nm,c,a⟩:=y;have HX1:=hide (HX.out.alloc' (.cells #[.string (str nm), .int .i64 c, .string (str a)] 141))
   cases hs:(nm==s)with
   |true=>
    have HE:=hide (show bltn s=some (c,a) by rw[HQ.out,HS.out,hs];rfl);go_wp2_with (go_quiet (fail));exact bodyPost_ret (v:= .tuple #[.int .i64 c, .string (str a), .bool true]) (by simp[results,results22,go_sem]) rfl ⟨by rw[HE.out];rfl,HX1.out.drewN _⟩
   |false=>
    have HE:=hide (show bltn s=((biT.drop (j+1)).find? (fun x=>x.1==s)).map (·.2) by rw[HQ.out,HS.out,hs];rfl);go_wp2_with fail;go_roundw
    case rel=>exact⟨j+1,by go_num,by omega,HE,HX1⟩
    case measure=>simp[intOf];omega
  ·have hlt': ¬(j:Int)<19:=by omega
   obtain rfl:j=19:=by omega
   have HE:=hide (show bltn s=none from HQ.out);go_wp2_with fail;exact bodyPost_ret (v:= .tuple #[.int .i64 0, .string (str []), .bool false]) (by simp[results,results22,go_sem,str]) rfl ⟨by rw[HE.out];rfl,HX.out⟩
end Go.Proofs.YtddomeddabfinaaGreatDoor
