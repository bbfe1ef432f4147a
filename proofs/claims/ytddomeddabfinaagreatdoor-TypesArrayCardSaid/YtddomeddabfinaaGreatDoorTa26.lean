/-
  Parts of the proof: TyY TyA.
-/
import Derived.Test.YtddomeddabfinaaGreatDoorTa24
import Derived.Test.YtddomeddabfinaaGreatDoorTa25
import Derived.BigQuiet
import Derived.Test.YtddomeddabfinaaGreatDoorTa00
import Derived.Test.YtddomeddabfinaaGreatDoorTa03
set_option maxRecDepth 100000
set_option maxHeartbeats 8000000
set_option linter.unusedVariables false
set_option linter.unusedSimpArgs false
set_option linter.unusedSectionVars false
namespace Go.Proofs.YtddomeddabfinaaGreatDoor
open Go.Proofs.Tryz
section
def bo (n:Int):Ex:=if 0<=n then .mk 1 [] [] [] n []else .mk 7 [45] [] [] 0 [.mk 6 [45] [] [] 0 [.mk 1 [] [] [] (-(n+1)) []], .mk 1 [] [] [] 1 []]
def fD (n:Int):Nat:=if 0<=n then 1 else 4
def Ms.spend (s:Ms) (k:Nat):Ms:={s with left:=s.left-k}
theorem m9 {n:Int} (h:eL n):(bo n).ok=true:=by
 unfold eL at h;unfold bo;split
 ·rename_i h0;simp[Ex.ok,m8,h0];omega
 ·simp[Ex.ok,m8,ky];omega
theorem im (n:Int):(bo n).wt<=6:=by
 unfold bo;split<;>simp[Ex.wt,fF]
theorem lF (n:Int):(bo n).dep<=3:=by
 unfold bo;split<;>simp[Ex.dep,eU]
theorem tB (g:Gl) (lo:Ls) (n:Int):kK g lo (bo n)= .ok ():=by
 unfold bo;split<;>simp[kK,lR,CR.then]
theorem oN (n:Int):cN (bo n)<=2:=by
 unfold bo;split
 ·simp[cN]
 ·simp[cN,gd,eQ,qR]
theorem p9 (C:Cx) (m:Nat) (s:Ms) (l:Lo) (v:Int) (h:s.left≠0) (hv:eL v):ev C (m+1) s l (.mk 1 [] [] [] v [])= .ok (v,s.step):=by
 rw[AB h,pz hv]
theorem xG (C:Cx) (m:Nat) (s:Ms) (l:Lo) (n:Int) (h:4<=s.left) (hn:eL n):ev C (m+3) s l (bo n)= .ok (n,s.spend (fD n)):=by
 have hn':=hn;unfold eL at hn';unfold bo fD;split
 ·rw[p9 C (m+2) s l n (by omega) hn];rfl
 ·rename_i h0;have e1:ev C (m+1) s.step.step l (.mk 1 [] [] [] (-(n+1)) [])= .ok (-(n+1),s.step.step.step):=p9 C m _ l _ (by simp only[Ms.step];omega) (by unfold eL;omega);have e2:ev C (m+2) s.step l (.mk 6 [45] [] [] 0 [.mk 1 [] [] [] (-(n+1)) []])= .ok (n+1,s.step.step.step):=by
   rw[Az (by simp only[Ms.step];omega)];show(ev C (m+1) s.step.step l (.mk 1 [] [] [] (-(n+1)) [])).then _=_;rw[e1,d_,if_neg (by decide)];have:kM (-(-(n+1)))=n+1:=by rw[pz (by unfold eL;omega)];omega
   rw[this]
  have e3:ev C (m+2) s.step.step.step l (.mk 1 [] [] [] 1 [])= .ok (1,s.step.step.step.step):=p9 C (m+1) _ l 1 (by simp only[Ms.step];omega) (by decide);rw[Ay (by omega)];show(ev C (m+2) s.step l (.mk 6 [45] [] [] 0 [.mk 1 [] [] [] (-(n+1)) []])).then _=_;rw[e2,d_,if_neg (by simp[mI]),if_neg (by simp[qT])];show(ev C (m+2) s.step.step.step l (.mk 1 [] [] [] 1 [])).then _=_;rw[e3,d_,if_neg (by decide)];show ig [45] (n+1) 1 _=_;unfold ig;rw[if_neg (by decide),if_pos rfl,pz (by unfold eL;omega)];have:n+1-1=n:=by omega
  rw[this];rfl
def i7 (x:Ex):Pg:=⟨[],[⟨bw,[],[.mk 6 [] [x] [] []]⟩]⟩
theorem yX {x:Ex} (h:x.ok=true) (hd:x.dep<=19) (hw:x.wt<=200):gD (i7 x)=true:=by
 have hb:m7 [.mk 6 [] [x] [] []]=true:=by simp[m7,St.ok,m8,h]
 have hf:nJ ⟨bw,[],[.mk 6 [] [x] [] []]⟩=true:=by
  have h1:dx bw=true:=by decide
  have h2:(St.mk 6 [] [x] [] []).dep<=20:=by simp[St.dep,eU,fM];omega
  unfold nJ;rw[h1];simp only[m7,gm]at hb;simp[h2,hb]
 have hs:(iZ (i7 x)).length<=4000:=by
  have:=ly x h;have e:iZ (i7 x)=[102,117,110,99,32,109,97,105,110,40,41,32,123,10,9,114,101,116,117,114,110,32]++(cd x++[59,10,125,10]):=by
   simp[iZ,i7,j4,bF,dB,iJ,eE,eM,iW,dI,bw,qv,ki]
  rw[e];simp only[Z,ac,ae];omega
 unfold gD;rw[show(i7 x).vs.all pQ=true from rfl,show(i7 x).fs.all nJ=true from by simp[i7,hf],decide_eq_true hs];rfl
theorem yY {x:Ex} (h: ∀g lo,g.arr=(fun _=>none)->kK g lo x= .ok ()) (hn:cN x<=7):fE (i7 x)= .ok ():=by
 have h1:kO (i7 x)= .ok (i'.addF ⟨bw,[],[.mk 6 [] [x] [] []]⟩):=by
  have h2:i'.known eG bw=false:=by decide
  simp only[kO,i7,ic,gB,de,h2];simp[CR.then,Gl.addF]
 have h2:gY (i'.addF ⟨bw,[],[.mk 6 [] [x] [] []]⟩) (i7 x).fs= .ok ():=by
  have h3: ∀g lo,g.arr=(fun _=>none)->eI g lo [.mk 6 [] [x] [] []]= .ok lo:=fun g lo hg=>by
   rw[eI,mT,if_neg (by decide),if_neg (by decide),if_neg (by decide),lR,h g lo hg];rfl
  show gY _ [⟨bw,[],[.mk 6 [] [x] [] []]⟩]=_;rw[gY];show CR.then (eI _ eG [.mk 6 [] [x] [] []]) _=_;rw[h3 _ _ rfl];rfl
 have h4:eS (i7 x).fs= .ok ():=by
  show eS [⟨bw,[],[.mk 6 [] [x] [] []]⟩]=_;rw[eS,if_neg (by simp[eH,p_,kU,Ci];omega)];rfl
 unfold fE;rw[h1,de,h2,de,h4]
def Cj (n k:Nat):Ms:=⟨fun _=>0,fun _=>[],n,k,0⟩
theorem yV (k n:Nat) (x:Ex) (R:Rs):wH (i7 x) R (k+1) (n+1)=match ev (cx (i7 x) R) k (Cj n 32) (fun _=>none) x with
  | .error o=>o
  | .ok (v,s)=>match R[s.used]? with
   |none=>⟨1,0,v%256,0,0,[],s.used⟩
   |some _=>⟨3,0,0,0,0,[],s.used+1⟩:=by
 have h0:gP (i7 x).fs bw=⟨bw,[],[.mk 6 [] [x] [] []]⟩:=by simp[i7,gP]
 generalize hC:cx (i7 x) R=C;have hR:C.R=R:=by rw[<-hC];rfl
 have hs:st C (k+1) ⟨fun _=>0,fun _=>[],n+1,32,0⟩ (fun _=>none) (.mk 6 [] [x] [] [])=(ev C k (Cj n 32) (fun _=>none) x).then fun v s=> .ok ((some v,fun _=>none),s):=by
  rw[wq (by simp)];rfl
 have hfr:fZ ⟨bw,[],[.mk 6 [] [x] [] []]⟩=32:=by simp[fZ,eH,p_]
 have hl:f5 (qi (fun _=>none) [] []) [.mk 6 [] [x] [] []]=fun _=>none:=by simp[f5,sH,qi]
 have hc:fq (fun s l y=>st C (k+1) s l y) ⟨bw,[],[.mk 6 [] [x] [] []]⟩ [] (vH (i7 x) (n+1))=(ev C k (Cj n 32) (fun _=>none) x).then fun v s=> .ok (v,{s with stk:=s.stk-32}):=by
  unfold fq;rw[hfr,if_neg (by show ¬1024<0+32;decide)];simp only[hl];show(lw (fun s l y=>st C (k+1) s l y) ⟨fun _=>0,fun _=>[],n+1,32,0⟩ (fun _=>none) [.mk 6 [] [x] [] []]).then _=_;simp only[lw];rw[hs]
  cases ev C k (Cj n 32) (fun _=>none) x with
  |error o=>rfl
  |ok p=>rfl
 unfold wH;rw[h0,hC,hc]
 cases ev C k (Cj n 32) (fun _=>none) x with
 |error o=>rfl
 |ok p=>
  obtain⟨v,s⟩:=p;simp only[ER.then,fx]
  cases R[s.used]? with
  |none=>rfl
  |some r=>rfl
end
section
open Go.RowKit
theorem au.drewN {a w:World} (h:au a w) (n:Nat):au a (w.drewN n):=h.trans ⟨rfl,rfl,rfl,ag _,fun _ _=>rfl⟩
def Bz:Array Value:=(o7.flatMap fun x=>[.string (ah x.1), .int .i64 x.2.1, .string (ah x.2.2)]).toArray
def vu (i:Nat):List UInt8×Int×List UInt8:=o7.getD i ([],0,[])
def BT (w:World):Prop:= ∃t fr,w.heap[0]? =some (.cells Bz t fr)
theorem BT.ext {w w':World} (h:BT w) (he:au w w'):BT w':=let⟨t,fr,h⟩:=h;⟨t,fr,(he.obj (Array.getElem?_eq_some_iff.1 h).1).trans h⟩
theorem BT.load {w:World} (h:BT w):(loadVar 142 ⟨0,0,none⟩).run prog w= .ok (.agg Bz) w:=
 let⟨t,fr,h⟩:=h;run_loadVar_row w _ t _ Bz fr _ h underlying142 rfl (by kernel_rfl)
theorem yg: ∀(i:Nat) (hi:i<19) (w:World),(Instr.index 142 (.agg Bz) (.int .i64 (i:Int))).run prog w= .ok (.agg #[.string (ah (vu i).1), .int .i64 (vu i).2.1, .string (ah (vu i).2.2)]) w
 |0,_,w=>by kernel_rfl
 |1,_,w=>by kernel_rfl
 |2,_,w=>by kernel_rfl
 |3,_,w=>by kernel_rfl
 |4,_,w=>by kernel_rfl
 |5,_,w=>by kernel_rfl
 |6,_,w=>by kernel_rfl
 |7,_,w=>by kernel_rfl
 |8,_,w=>by kernel_rfl
 |9,_,w=>by kernel_rfl
 |10,_,w=>by kernel_rfl
 |11,_,w=>by kernel_rfl
 |12,_,w=>by kernel_rfl
 |13,_,w=>by kernel_rfl
 |14,_,w=>by kernel_rfl
 |15,_,w=>by kernel_rfl
 |16,_,w=>by kernel_rfl
 |17,_,w=>by kernel_rfl
 |18,_,w=>by kernel_rfl
 |n+19,h,_=>absurd h (by omega)
theorem qj {P:Program} {w:World} {ops:Array Oper} {rest:List Oper} {o:Oper} {a:Act} {Q:Exit->Act->World->Prop} (hg:o.guard=none) (ty:TypeId) (x:Operand) (ho:o.op= .load ty x) (g:Nat) (hx:a.eval x= .pointer (some ⟨g,0,none⟩))
  (v:Value) (hl:(loadVar ty ⟨g,0,none⟩).run P w= .ok v w) (hK:wpList P ops Q rest (a.put o.dst v) w):wpList P ops Q (o::rest) a w:=by
 refine wpList_plain hg fun K' hK'=> ?_;unfold Oper.wp;simp[execOp,ho,Instr.loadAt,Instr.sureAddr,hx,hl,Result.andThen];exact hK' _ _ hK
theorem vj (s:List UInt8):dR s=((o7.drop 0).find? (fun x=>x.1==s)).map (·.2):=rfl
theorem z6 {s:List UInt8} {i:Nat} (hi:i<19):((o7.drop i).find? (fun x=>x.1==s)).map (·.2)=if(vu i).1==s then some (vu i).2 else((o7.drop (i+1)).find? (fun x=>x.1==s)).map (·.2):=by
 have hl:i<o7.length:=hi;have e:o7[i]=vu i:=by unfold vu;rw[bM,aL hl];rfl
 rw[aw hl,jz,e]
 cases (vu i).1==s<;>rfl
def Bs:Bi->Ending
 |some (c,a)=> .returned (.tuple #[.int .i64 c, .string (ah a), .bool true])
 |none=> .returned (.tuple #[.int .i64 0, .string (ah []), .bool false])
theorem kt (s:List UInt8) (w:World) (h:BT w):Calls prog 22 #[.string (ah s)] w fun e w'=>e=Bs (dR s)/\au w w':=by
 have hld:=h.load;have HR:=G (vj s);have HX0:=G (aO w);clear h;generalize hC:Bz=C at hld;have HC:=G hC;clear hC;go_enter func22,ntmps22;go_wp2_with (refine qj rfl 142 (.global 0) rfl _ rfl _ hld ?_);clear hld
 go_loopw [8] (fun vi wr=> ∃(j:Nat),vi= .int .i64 (j:Int)/\j<=19/\Hid (dR s=((o7.drop j).find? (fun x=>x.1==s)).map (·.2))/\Hid (au w wr)) (fun vi _=>19-(intOf vi).toNat)
 case atStart=>exact⟨0,rfl,by omega,HR,HX0⟩
 case round=>
  obtain⟨j,rfl,hj,HQ,HX⟩:=hrel;by_cases hlt:j<19
  ·have hlt':(j:Int)<19:=by omega
   have hix:=yg j hlt wr;rw[HC.out]at hix;have HS:=G (z6 (s:=s) hlt);generalize vu j=y at*;obtain⟨nm,c,a⟩:=y;have HX1:=G (HX.out.alloc' (.cells #[.string (ah nm), .int .i64 c, .string (ah a)] 141))
   cases hs:(nm==s)with
   |true=>
    have HE:=G (show dR s=some (c,a) by rw[HQ.out,HS.out,hs];rfl);go_wp2_with (go_quiet (fail));exact bodyPost_ret (v:= .tuple #[.int .i64 c, .string (ah a), .bool true]) (by simp[results,results22,go_sem]) rfl ⟨by rw[HE.out];rfl,HX1.out.drewN _⟩
   |false=>
    have HE:=G (show dR s=((o7.drop (j+1)).find? (fun x=>x.1==s)).map (·.2) by rw[HQ.out,HS.out,hs];rfl);go_wp2_with fail;go_roundw
    case rel=>exact⟨j+1,by go_num,by omega,HE,HX1⟩
    case measure=>simp[intOf];omega
  ·have hlt': ¬(j:Int)<19:=by omega
   obtain rfl:j=19:=by omega
   have HE:=G (show dR s=none from HQ.out);go_wp2_with fail;exact bodyPost_ret (v:= .tuple #[.int .i64 0, .string (ah []), .bool false]) (by simp[results,results22,go_sem,ah]) rfl ⟨by rw[HE.out];rfl,HX.out⟩
end
end Go.Proofs.YtddomeddabfinaaGreatDoor
