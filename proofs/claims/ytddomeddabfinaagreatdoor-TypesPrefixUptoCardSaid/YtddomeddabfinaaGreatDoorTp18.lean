/-
  Parts of the proof: TyY TyA.
-/
import Derived.Test.YtddomeddabfinaaGreatDoorTp16
import Derived.Test.YtddomeddabfinaaGreatDoorTp17
import Derived.BigQuiet
import Derived.Test.YtddomeddabfinaaGreatDoorTp00
import Derived.Test.YtddomeddabfinaaGreatDoorTp02
set_option maxRecDepth 100000
set_option maxHeartbeats 8000000
set_option linter.unusedVariables false
set_option linter.unusedSimpArgs false
set_option linter.unusedSectionVars false
namespace Go.Proofs.YtddomeddabfinaaGreatDoor
open Go.Proofs.Tryz
section
theorem CP (C:Cx) (m:Nat) (s:Ms) (l:Lo) (v:Int) (h:s.left≠0) (hv:iK v):ev C (m+1) s l (.mk 1 [] [] [] v [])= .ok (v,s.step):=by
 rw[BY h,wQ hv]
def js (x:Ex):Pg:=⟨[],[⟨bH,[],[.mk 6 [] [x] [] []]⟩]⟩
theorem Ai {x:Ex} (h:x.ok=true) (hd:x.dep<=19) (hw:x.wt<=200):ir (js x)=true:=by
 have hb:oV [.mk 6 [] [x] [] []]=true:=by simp[oV,St.ok,qR,h]
 have hf:oZ ⟨bH,[],[.mk 6 [] [x] [] []]⟩=true:=by
  have h1:dX bH=true:=by decide
  have h2:(St.mk 6 [] [x] [] []).dep<=20:=by simp[St.dep,fX,gh];omega
  unfold oZ;rw[h1];simp only[oV,gC]at hb;simp[h2,hb]
 have hs:(ky (js x)).length<=4000:=by
  have:=ri x h;have e:ky (js x)=[102,117,110,99,32,109,97,105,110,40,41,32,123,10,9,114,101,116,117,114,110,32]++(cz x++[59,10,125,10]):=by
   simp[ky,js,kZ,bO,dS,jN,eU,e_,jL,d7,bH,ua,lP]
  rw[e];simp only[aa,ae,ag];omega
 unfold ir;rw[show(js x).vs.all rB=true from rfl,show(js x).fs.all oZ=true from by simp[js,hf],decide_eq_true hs];rfl
theorem Aj {x:Ex} (h: ∀g lo,g.arr=(fun _=>none)->nc g lo x= .ok ()) (hn:dF x<=7):gk (js x)= .ok ():=by
 have h1:lO (js x)= .ok (mD.addF ⟨bH,[],[.mk 6 [] [x] [] []]⟩):=by
  have h2:mD.known ff bH=false:=by decide
  simp only[lO,js,jK,il,em,h2];simp[CR.then,Gl.addF]
 have h2:jy (mD.addF ⟨bH,[],[.mk 6 [] [x] [] []]⟩) (js x).fs= .ok ():=by
  have h3: ∀g lo,g.arr=(fun _=>none)->fw g lo [.mk 6 [] [x] [] []]= .ok lo:=fun g lo hg=>by
   rw[fw,qG,if_neg (by decide),if_neg (by decide),if_neg (by decide),na,h g lo hg];rfl
  show jy _ [⟨bH,[],[.mk 6 [] [x] [] []]⟩]=_;rw[jy];show CR.then (fw _ ff [.mk 6 [] [x] [] []]) _=_;rw[h3 _ _ rfl];rfl
 have h4:fP (js x).fs= .ok ():=by
  show fP [⟨bH,[],[.mk 6 [] [x] [] []]⟩]=_;rw[fP,if_neg (by simp[fu,tE,lL,Ea];omega)];rfl
 unfold gk;rw[h1,em,h2,em,h4]
def DN (n k:Nat):Ms:=⟨fun _=>0,fun _=>[],n,k,0⟩
theorem Af (k n:Nat) (x:Ex) (R:Rs):xK (js x) R (k+1) (n+1)=match ev (cx (js x) R) k (DN n 32) (fun _=>none) x with
  | .error o=>o
  | .ok (v,s)=>match R[s.used]? with
   |none=>⟨1,0,v%256,0,0,[],s.used⟩
   |some _=>⟨3,0,0,0,0,[],s.used+1⟩:=by
 have h0:gL (js x).fs bH=⟨bH,[],[.mk 6 [] [x] [] []]⟩:=by simp[js,gL]
 generalize hC:cx (js x) R=C;have hR:C.R=R:=by rw[<-hC];rfl
 have hs:st C (k+1) ⟨fun _=>0,fun _=>[],n+1,32,0⟩ (fun _=>none) (.mk 6 [] [x] [] [])=(ev C k (DN n 32) (fun _=>none) x).then fun v s=> .ok ((some v,fun _=>none),s):=by
  rw[xw (by simp)];rfl
 have hfr:gu ⟨bH,[],[.mk 6 [] [x] [] []]⟩=32:=by simp[gu,fu,tE]
 have hl:gx (sw (fun _=>none) [] []) [.mk 6 [] [x] [] []]=fun _=>none:=by simp[gx,wm,sw]
 have hc:eK (fun s l y=>st C (k+1) s l y) ⟨bH,[],[.mk 6 [] [x] [] []]⟩ [] (AQ (js x) (n+1))=(ev C k (DN n 32) (fun _=>none) x).then fun v s=> .ok (v,{s with stk:=s.stk-32}):=by
  unfold eK;rw[hfr,if_neg (by show ¬1024<0+32;decide)];simp only[hl];show(ln (fun s l y=>st C (k+1) s l y) ⟨fun _=>0,fun _=>[],n+1,32,0⟩ (fun _=>none) [.mk 6 [] [x] [] []]).then _=_;simp only[ln];rw[hs]
  cases ev C k (DN n 32) (fun _=>none) x with
  |error o=>rfl
  |ok p=>rfl
 unfold xK;rw[h0,hC,hc]
 cases ev C k (DN n 32) (fun _=>none) x with
 |error o=>rfl
 |ok p=>
  obtain⟨v,s⟩:=p;simp only[ER.then,eQ]
  cases R[s.used]? with
  |none=>rfl
  |some r=>rfl
end
section
open Go.RowKit
theorem au.drewN {a w:World} (h:au a w) (n:Nat):au a (w.drewN n):=h.trans ⟨rfl,rfl,rfl,ah _,fun _ _=>rfl⟩
def C5:Array Value:=(pT.flatMap fun x=>[.string (ai x.1), .int .i64 x.2.1, .string (ai x.2.2)]).toArray
def wD (i:Nat):List UInt8×Int×List UInt8:=pT.getD i ([],0,[])
def BT (w:World):Prop:= ∃t fr,w.heap[0]? =some (.cells C5 t fr)
theorem BT.ext {w w':World} (h:BT w) (he:au w w'):BT w':=let⟨t,fr,h⟩:=h;⟨t,fr,(he.obj (Array.getElem?_eq_some_iff.1 h).1).trans h⟩
theorem BT.load {w:World} (h:BT w):(loadVar 142 ⟨0,0,none⟩).run prog w= .ok (.agg C5) w:=
 let⟨t,fr,h⟩:=h;run_loadVar_row w _ t _ C5 fr _ h underlying142 rfl (by kernel_rfl)
theorem zw: ∀(i:Nat) (hi:i<19) (w:World),(Instr.index 142 (.agg C5) (.int .i64 (i:Int))).run prog w= .ok (.agg #[.string (ai (wD i).1), .int .i64 (wD i).2.1, .string (ai (wD i).2.2)]) w
 |0,_,w=>by kernel_rfl
 |1,_,w=>by kernel_rfl
 |2,_,w=>by kernel_rfl
 |3,_,w=>by kernel_rfl
 |4,_,w=>by kernel_rfl
 |5,_,w=>by kernel_rfl
 |6,_,w=>by kernel_rfl
 |7,_,w=>by kernel_rfl
 |8,_,w=>by kernel_rfl
 |9,_,w=>by kernel_rfl
 |10,_,w=>by kernel_rfl
 |11,_,w=>by kernel_rfl
 |12,_,w=>by kernel_rfl
 |13,_,w=>by kernel_rfl
 |14,_,w=>by kernel_rfl
 |15,_,w=>by kernel_rfl
 |16,_,w=>by kernel_rfl
 |17,_,w=>by kernel_rfl
 |18,_,w=>by kernel_rfl
 |n+19,h,_=>absurd h (by omega)
theorem qT {P:Program} {w:World} {ops:Array Oper} {rest:List Oper} {o:Oper} {a:Act} {Q:Exit->Act->World->Prop} (hg:o.guard=none) (ty:TypeId) (x:Operand) (ho:o.op= .load ty x) (g:Nat) (hx:a.eval x= .pointer (some ⟨g,0,none⟩))
  (v:Value) (hl:(loadVar ty ⟨g,0,none⟩).run P w= .ok v w) (hK:wpList P ops Q rest (a.put o.dst v) w):wpList P ops Q (o::rest) a w:=by
 refine wpList_plain hg fun K' hK'=> ?_;unfold Oper.wp;simp[execOp,ho,Instr.loadAt,Instr.sureAddr,hx,hl,Result.andThen];exact hK' _ _ hK
theorem wB (s:List UInt8):ew s=((pT.drop 0).find? (fun x=>x.1==s)).map (·.2):=rfl
theorem Bv {s:List UInt8} {i:Nat} (hi:i<19):((pT.drop i).find? (fun x=>x.1==s)).map (·.2)=if(wD i).1==s then some (wD i).2 else((pT.drop (i+1)).find? (fun x=>x.1==s)).map (·.2):=by
 have hl:i<pT.length:=hi;have e:pT[i]=wD i:=by unfold wD;rw[bU,aK hl];rfl
 rw[ax hl,jX,e]
 cases (wD i).1==s<;>rfl
def CV:Bi->Ending
 |some (c,a)=> .returned (.tuple #[.int .i64 c, .string (ai a), .bool true])
 |none=> .returned (.tuple #[.int .i64 0, .string (ai []), .bool false])
theorem kV (s:List UInt8) (w:World) (h:BT w):Calls prog 22 #[.string (ai s)] w fun e w'=>e=CV (ew s)/\au w w':=by
 have hld:=h.load;have HR:=G (wB s);have HX0:=G (aN w);clear h;generalize hC:C5=C at hld;have HC:=G hC;clear hC;go_enter func22,ntmps22;go_wp2_with (refine qT rfl 142 (.global 0) rfl _ rfl _ hld ?_);clear hld
 go_loopw [8] (fun vi wr=> ∃(j:Nat),vi= .int .i64 (j:Int)/\j<=19/\Hid (ew s=((pT.drop j).find? (fun x=>x.1==s)).map (·.2))/\Hid (au w wr)) (fun vi _=>19-(intOf vi).toNat)
 case atStart=>exact⟨0,rfl,by omega,HR,HX0⟩
 case round=>
  obtain⟨j,rfl,hj,HQ,HX⟩:=hrel;by_cases hlt:j<19
  ·have hlt':(j:Int)<19:=by omega
   have hix:=zw j hlt wr;rw[HC.out]at hix;have HS:=G (Bv (s:=s) hlt);generalize wD j=y at*;obtain⟨nm,c,a⟩:=y;have HX1:=G (HX.out.alloc' (.cells #[.string (ai nm), .int .i64 c, .string (ai a)] 141))
   cases hs:(nm==s)with
   |true=>
    have HE:=G (show ew s=some (c,a) by rw[HQ.out,HS.out,hs];rfl);go_wp2_with (go_quiet (fail));exact bodyPost_ret (v:= .tuple #[.int .i64 c, .string (ai a), .bool true]) (by simp[results,results22,go_sem]) rfl ⟨by rw[HE.out];rfl,HX1.out.drewN _⟩
   |false=>
    have HE:=G (show ew s=((pT.drop (j+1)).find? (fun x=>x.1==s)).map (·.2) by rw[HQ.out,HS.out,hs];rfl);go_wp2_with fail;go_roundw
    case rel=>exact⟨j+1,by go_num,by omega,HE,HX1⟩
    case measure=>simp[intOf];omega
  ·have hlt': ¬(j:Int)<19:=by omega
   obtain rfl:j=19:=by omega
   have HE:=G (show ew s=none from HQ.out);go_wp2_with fail;exact bodyPost_ret (v:= .tuple #[.int .i64 0, .string (ai []), .bool false]) (by simp[results,results22,go_sem,ai]) rfl ⟨by rw[HE.out];rfl,HX.out⟩
end
end Go.Proofs.YtddomeddabfinaaGreatDoor
