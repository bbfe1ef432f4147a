/-
  Parts of the proof: TyY TyA.
-/
import Derived.Test.YtddomeddabfinaaGreatDoorTz16
import Derived.Test.YtddomeddabfinaaGreatDoorTz17
import Derived.BigQuiet
import Derived.Test.YtddomeddabfinaaGreatDoorTz00
import Derived.Test.YtddomeddabfinaaGreatDoorTz02
set_option maxRecDepth 100000
set_option maxHeartbeats 8000000
set_option linter.unusedVariables false
set_option linter.unusedSimpArgs false
set_option linter.unusedSectionVars false
namespace Go.Proofs.YtddomeddabfinaaGreatDoor
open Go.Proofs.Tryz
section
def cS (n:Int):Ex:=if 0<=n then .mk 1 [] [] [] n []else .mk 7 [45] [] [] 0 [.mk 6 [45] [] [] 0 [.mk 1 [] [] [] (-(n+1)) []], .mk 1 [] [] [] 1 []]
def jV (n:Int):Nat:=if 0<=n then 1 else 4
def Ms.spend (s:Ms) (k:Nat):Ms:={s with left:=s.left-k}
theorem nu {n:Int} (h:eO n):(cS n).ok=true:=by
 unfold eO at h;unfold cS;split
 ·rename_i h0;simp[Ex.ok,m9,h0];omega
 ·simp[Ex.ok,m9,kD];omega
theorem t8 (n:Int):(cS n).wt<=6:=by
 unfold cS;split<;>simp[Ex.wt,fL]
theorem qX (n:Int):(cS n).dep<=3:=by
 unfold cS;split<;>simp[Ex.dep,fA]
theorem t_ (g:Gl) (lo:Ls) (n:Int):lw g lo (cS n)= .ok ():=by
 unfold cS;split<;>simp[lw,l7,CR.then]
theorem pg (n:Int):cX (cS n)<=2:=by
 unfold cS;split
 ·simp[cX]
 ·simp[cX,gg,eL,rn]
theorem qq (C:Cx) (m:Nat) (s:Ms) (l:Lo) (v:Int) (h:s.left≠0) (hv:eO v):ev C (m+1) s l (.mk 1 [] [] [] v [])= .ok (v,s.step):=by
 rw[Bm h,nF hv]
theorem yi (C:Cx) (m:Nat) (s:Ms) (l:Lo) (n:Int) (h:4<=s.left) (hn:eO n):ev C (m+3) s l (cS n)= .ok (n,s.spend (jV n)):=by
 have hn':=hn;unfold eO at hn';unfold cS jV;split
 ·rw[qq C (m+2) s l n (by omega) hn];rfl
 ·rename_i h0;have e1:ev C (m+1) s.step.step l (.mk 1 [] [] [] (-(n+1)) [])= .ok (-(n+1),s.step.step.step):=qq C m _ l _ (by simp only[Ms.step];omega) (by unfold eO;omega);have e2:ev C (m+2) s.step l (.mk 6 [45] [] [] 0 [.mk 1 [] [] [] (-(n+1)) []])= .ok (n+1,s.step.step.step):=by
   rw[Bl (by simp only[Ms.step];omega)];show(ev C (m+1) s.step.step l (.mk 1 [] [] [] (-(n+1)) [])).then _=_;rw[e1,eh,if_neg (by decide)];have:kI (-(-(n+1)))=n+1:=by rw[nF (by unfold eO;omega)];omega
   rw[this]
  have e3:ev C (m+2) s.step.step.step l (.mk 1 [] [] [] 1 [])= .ok (1,s.step.step.step.step):=qq C (m+1) _ l 1 (by simp only[Ms.step];omega) (by decide);rw[yj (by omega)];show(ev C (m+2) s.step l (.mk 6 [45] [] [] 0 [.mk 1 [] [] [] (-(n+1)) []])).then _=_;rw[e2,eh,if_neg (by simp[jM]),if_neg (by simp[m'])];show(ev C (m+2) s.step.step.step l (.mk 1 [] [] [] 1 [])).then _=_;rw[e3,eh,if_neg (by decide)];show fM [45] (n+1) 1 _=_;unfold fM;rw[if_neg (by decide),if_pos rfl,nF (by unfold eO;omega)];have:n+1-1=n:=by omega
  rw[this];rfl
def eS (x:Ex):Pg:=⟨[],[⟨bC,[],[.mk 6 [] [x] [] []]⟩]⟩
theorem tR {x:Ex} (h:x.ok=true) (hd:x.dep<=19) (hw:x.wt<=200):gZ (eS x)=true:=by
 have hb:oL [.mk 6 [] [x] [] []]=true:=by simp[oL,St.ok,m9,h]
 have hf:oP ⟨bC,[],[.mk 6 [] [x] [] []]⟩=true:=by
  have h1:dP bC=true:=by decide
  have h2:(St.mk 6 [] [x] [] []).dep<=20:=by simp[St.dep,fA,f9];omega
  unfold oP;rw[h1];simp only[oL,gq]at hb;simp[h2,hb]
 have hs:(j9 (eS x)).length<=4000:=by
  have:=qL x h;have e:j9 (eS x)=[102,117,110,99,32,109,97,105,110,40,41,32,123,10,9,114,101,116,117,114,110,32]++(cm x++[59,10,125,10]):=by
   simp[j9,eS,kL,bG,dK,jt,eK,eU,jq,dU,bC,tK,lG]
  rw[e];simp only[aa,ae,ag];omega
 unfold gZ;rw[show(eS x).vs.all qW=true from rfl,show(eS x).fs.all oP=true from by simp[eS,hf],decide_eq_true hs];rfl
theorem tS {x:Ex} (h: ∀g lo,g.arr=(fun _=>none)->lw g lo x= .ok ()) (hn:cX x<=7):fR (eS x)= .ok ():=by
 have h1:lF (eS x)= .ok (mx.addF ⟨bC,[],[.mk 6 [] [x] [] []]⟩):=by
  have h2:mx.known eY bC=false:=by decide
  simp only[lF,eS,jp,gV,dV,h2];simp[CR.then,Gl.addF]
 have h2:jd (mx.addF ⟨bC,[],[.mk 6 [] [x] [] []]⟩) (eS x).fs= .ok ():=by
  have h3: ∀g lo,g.arr=(fun _=>none)->fe g lo [.mk 6 [] [x] [] []]= .ok lo:=fun g lo hg=>by
   rw[fe,qr,if_neg (by decide),if_neg (by decide),if_neg (by decide),l7,h g lo hg];rfl
  show jd _ [⟨bC,[],[.mk 6 [] [x] [] []]⟩]=_;rw[jd];show CR.then (fe _ eY [.mk 6 [] [x] [] []]) _=_;rw[h3 _ _ rfl];rfl
 have h4:fE (eS x).fs= .ok ():=by
  show fE [⟨bC,[],[.mk 6 [] [x] [] []]⟩]=_;rw[fE,if_neg (by simp[fd,s9,lA,DA];omega)];rfl
 unfold fR;rw[h1,dV,h2,dV,h4]
def yY (n k:Nat):Ms:=⟨fun _=>0,fun _=>[],n,k,0⟩
theorem tQ (k n:Nat) (x:Ex) (R:Rs):xf (eS x) R (k+1) (n+1)=match ev (cx (eS x) R) k (yY n 32) (fun _=>none) x with
  | .error o=>o
  | .ok (v,s)=>match R[s.used]? with
   |none=>⟨1,0,v%256,0,0,[],s.used⟩
   |some _=>⟨3,0,0,0,0,[],s.used+1⟩:=by
 have h0:ib (eS x).fs bC=⟨bC,[],[.mk 6 [] [x] [] []]⟩:=by simp[eS,ib]
 generalize hC:cx (eS x) R=C;have hR:C.R=R:=by rw[<-hC];rfl
 have hs:st C (k+1) ⟨fun _=>0,fun _=>[],n+1,32,0⟩ (fun _=>none) (.mk 6 [] [x] [] [])=(ev C k (yY n 32) (fun _=>none) x).then fun v s=> .ok ((some v,fun _=>none),s):=by
  rw[wU (by simp)];rfl
 have hfr:gF ⟨bC,[],[.mk 6 [] [x] [] []]⟩=32:=by simp[gF,fd,s9]
 have hl:gm (rZ (fun _=>none) [] []) [.mk 6 [] [x] [] []]=fun _=>none:=by simp[gm,vR,rZ]
 have hc:fF (fun s l y=>st C (k+1) s l y) ⟨bC,[],[.mk 6 [] [x] [] []]⟩ [] (CH (eS x) (n+1))=(ev C k (yY n 32) (fun _=>none) x).then fun v s=> .ok (v,{s with stk:=s.stk-32}):=by
  unfold fF;rw[hfr,if_neg (by show ¬1024<0+32;decide)];simp only[hl];show(mh (fun s l y=>st C (k+1) s l y) ⟨fun _=>0,fun _=>[],n+1,32,0⟩ (fun _=>none) [.mk 6 [] [x] [] []]).then _=_;simp only[mh];rw[hs]
  cases ev C k (yY n 32) (fun _=>none) x with
  |error o=>rfl
  |ok p=>rfl
 unfold xf;rw[h0,hC,hc]
 cases ev C k (yY n 32) (fun _=>none) x with
 |error o=>rfl
 |ok p=>
  obtain⟨v,s⟩:=p;simp only[ER.then,fW]
  cases R[s.used]? with
  |none=>rfl
  |some r=>rfl
def kM:List (List UInt8):=[[43],[45],[42],[47],[37],[60],[61,61]]
def kO (op:List UInt8) (a b:Ex):Ex:= .mk 7 op [] [] 0 [a,b]
theorem AL {op:List UInt8} {a b:Ex} (h:0<kD op) (ha:a.ok=true) (hb:b.ok=true):(kO op a b).ok=true:=by
 simp[kO,Ex.ok,m9,ha,hb,h]
theorem Ce {C:Cx} {m:Nat} {s:Ms} {l:Lo} {op:List UInt8} {a b:Int} (h1:jM op=false) (h2:m' op=false) (hs:9<=s.left) (ha:eO a) (hb:eO b):
  ev C (m+4) s l (kO op (cS a) (cS b))=fM op a b ((s.spend (jV a+jV b+1))):=by
 have hc:jV a<=4:=by unfold jV;split<;>omega
 have e1:=yi C m s.step l a (by simp only[Ms.step];omega) ha;have e2:=yi C m (s.step.spend (jV a)) l b (by simp only[Ms.step,Ms.spend];omega) hb;rw[kO,yj (by omega)];show(ev C (m+3) s.step l (cS a)).then _=_;rw[e1,eh,if_neg (by show ¬(jM op=true/\ _);rw[h1];simp),if_neg (by show ¬(m' op=true/\ _);rw[h2];simp)];show(ev C (m+3) (s.step.spend (jV a)) l (cS b)).then _=_;rw[e2,eh,if_neg (by show ¬((jM op||m' op)=true);rw[h1,h2];decide)];have e3:(s.step.spend (jV a)).spend (jV b)=s.spend (jV a+jV b+1):=by
  simp only[Ms.step,Ms.spend]
  congr 1
  omega
 rw[e3]
end
section
open Go.RowKit
theorem aq.drewN {a w:World} (h:aq a w) (n:Nat):aq a (w.drewN n):=h.trans ⟨rfl,rfl,rfl,ah _,fun _ _=>rfl⟩
def Co:Array Value:=(pF.flatMap fun x=>[.string (ai x.1), .int .i64 x.2.1, .string (ai x.2.2)]).toArray
def v7 (i:Nat):List UInt8×Int×List UInt8:=pF.getD i ([],0,[])
def BT (w:World):Prop:= ∃t fr,w.heap[0]? =some (.cells Co t fr)
theorem BT.ext {w w':World} (h:BT w) (he:aq w w'):BT w':=let⟨t,fr,h⟩:=h;⟨t,fr,(he.obj (Array.getElem?_eq_some_iff.1 h).1).trans h⟩
theorem BT.load {w:World} (h:BT w):(loadVar 142 ⟨0,0,none⟩).run prog w= .ok (.agg Co) w:=
 let⟨t,fr,h⟩:=h;run_loadVar_row w _ t _ Co fr _ h underlying142 rfl (by kernel_rfl)
theorem yK: ∀(i:Nat) (hi:i<19) (w:World),(Instr.index 142 (.agg Co) (.int .i64 (i:Int))).run prog w= .ok (.agg #[.string (ai (v7 i).1), .int .i64 (v7 i).2.1, .string (ai (v7 i).2.2)]) w
 |0,_,w=>by kernel_rfl
 |1,_,w=>by kernel_rfl
 |2,_,w=>by kernel_rfl
 |3,_,w=>by kernel_rfl
 |4,_,w=>by kernel_rfl
 |5,_,w=>by kernel_rfl
 |6,_,w=>by kernel_rfl
 |7,_,w=>by kernel_rfl
 |8,_,w=>by kernel_rfl
 |9,_,w=>by kernel_rfl
 |10,_,w=>by kernel_rfl
 |11,_,w=>by kernel_rfl
 |12,_,w=>by kernel_rfl
 |13,_,w=>by kernel_rfl
 |14,_,w=>by kernel_rfl
 |15,_,w=>by kernel_rfl
 |16,_,w=>by kernel_rfl
 |17,_,w=>by kernel_rfl
 |18,_,w=>by kernel_rfl
 |n+19,h,_=>absurd h (by omega)
theorem gv {P:Program} {w:World} {ops:Array Oper} {rest:List Oper} {o:Oper} {a:Act} {Q:Exit->Act->World->Prop} (hg:o.guard=none) (ty:TypeId) (x:Operand) (ho:o.op= .load ty x) (g:Nat) (hx:a.eval x= .pointer (some ⟨g,0,none⟩))
  (v:Value) (hl:(loadVar ty ⟨g,0,none⟩).run P w= .ok v w) (hK:wpList P ops Q rest (a.put o.dst v) w):wpList P ops Q (o::rest) a w:=by
 refine wpList_plain hg fun K' hK'=> ?_;unfold Oper.wp;simp[execOp,ho,Instr.loadAt,Instr.sureAddr,hx,hl,Result.andThen];exact hK' _ _ hK
theorem vZ (s:List UInt8):ee s=((pF.drop 0).find? (fun x=>x.1==s)).map (·.2):=rfl
theorem AM {s:List UInt8} {i:Nat} (hi:i<19):((pF.drop i).find? (fun x=>x.1==s)).map (·.2)=if(v7 i).1==s then some (v7 i).2 else((pF.drop (i+1)).find? (fun x=>x.1==s)).map (·.2):=by
 have hl:i<pF.length:=hi;have e:pF[i]=v7 i:=by unfold v7;rw[bB,aI hl];rfl
 rw[ay hl,jD,e]
 cases (v7 i).1==s<;>rfl
def Cj:Bi->Ending
 |some (c,a)=> .returned (.tuple #[.int .i64 c, .string (ai a), .bool true])
 |none=> .returned (.tuple #[.int .i64 0, .string (ai []), .bool false])
theorem kG (s:List UInt8) (w:World) (h:BT w):Calls prog 22 #[.string (ai s)] w fun e w'=>e=Cj (ee s)/\aq w w':=by
 have hld:=h.load;have HR:=G (vZ s);have HX0:=G (aR w);clear h;generalize hC:Co=C at hld;have HC:=G hC;clear hC;go_enter func22,ntmps22;go_wp2_with (refine gv rfl 142 (.global 0) rfl _ rfl _ hld ?_);clear hld
 go_loopw [8] (fun vi wr=> ∃(j:Nat),vi= .int .i64 (j:Int)/\j<=19/\Hid (ee s=((pF.drop j).find? (fun x=>x.1==s)).map (·.2))/\Hid (aq w wr)) (fun vi _=>19-(intOf vi).toNat)
 case atStart=>exact⟨0,rfl,by omega,HR,HX0⟩
 case round=>
  obtain⟨j,rfl,hj,HQ,HX⟩:=hrel;by_cases hlt:j<19
  ·have hlt':(j:Int)<19:=by omega
   have hix:=yK j hlt wr;rw[HC.out]at hix;have HS:=G (AM (s:=s) hlt);generalize v7 j=y at*;obtain⟨nm,c,a⟩:=y;have HX1:=G (HX.out.alloc' (.cells #[.string (ai nm), .int .i64 c, .string (ai a)] 141))
   cases hs:(nm==s)with
   |true=>
    have HE:=G (show ee s=some (c,a) by rw[HQ.out,HS.out,hs];rfl);go_wp2_with (go_quiet (fail));exact bodyPost_ret (v:= .tuple #[.int .i64 c, .string (ai a), .bool true]) (by simp[results,results22,go_sem]) rfl ⟨by rw[HE.out];rfl,HX1.out.drewN _⟩
   |false=>
    have HE:=G (show ee s=((pF.drop (j+1)).find? (fun x=>x.1==s)).map (·.2) by rw[HQ.out,HS.out,hs];rfl);go_wp2_with fail;go_roundw
    case rel=>exact⟨j+1,by go_num,by omega,HE,HX1⟩
    case measure=>simp[intOf];omega
  ·have hlt': ¬(j:Int)<19:=by omega
   obtain rfl:j=19:=by omega
   have HE:=G (show ee s=none from HQ.out);go_wp2_with fail;exact bodyPost_ret (v:= .tuple #[.int .i64 0, .string (ai []), .bool false]) (by simp[results,results22,go_sem,ai]) rfl ⟨by rw[HE.out];rfl,HX.out⟩
end
end Go.Proofs.YtddomeddabfinaaGreatDoor
