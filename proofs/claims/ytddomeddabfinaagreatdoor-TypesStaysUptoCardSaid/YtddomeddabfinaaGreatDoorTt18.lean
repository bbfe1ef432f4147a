/- Parts of the proof. -/
import Derived.Test.YtddomeddabfinaaGreatDoorTt16
import Derived.Test.YtddomeddabfinaaGreatDoorTt17
import Derived.BigQuiet
import Derived.Test.YtddomeddabfinaaGreatDoorTt00
import Derived.Test.YtddomeddabfinaaGreatDoorTt02
set_option maxRecDepth 100000
set_option maxHeartbeats 8000000
set_option linter.unusedVariables false
set_option linter.unusedSimpArgs false
set_option linter.unusedSectionVars false
namespace Go.Proofs.YtddomeddabfinaaGreatDoor
open Go.Proofs.Tryz
section
theorem Fq (C:Cx) (m:Nat) (s:Ms) (l:Lo) (v:Int) (h:s.left≠0) (a:jH v):ev C (m+1) s l (.mk 1 [] [] [] v [])=.ok (v,s.step):=by
 rw[Ev h,zj a]
def ko (x:Ex):Pg:=⟨[],[⟨bW,[],[.mk 6 [] [x] [] []]⟩]⟩
theorem CJ {x:Ex} (h:x.ok=true) (G:x.dep<=19) (A:x.wt<=200):gx (ko x)=true:=by
 have a:qv [.mk 6 [] [x] [] []]=true:=by simp[qv,St.ok,sW,h]
 have o:oa ⟨bW,[],[.mk 6 [] [x] [] []]⟩=true:=by
  have z:dY bW=true:=Qc
  have w:(St.mk 6 [] [x] [] []).dep<=20:=by simp[St.dep,gR,ie];omega
  unfold oa;rw[z];simp only[qv,iy]at a;simp[w,a]
 have j:(iZ (ko x)).length<=4000:=by
  have:=tp x h;have e:iZ (ko x)=[102,117,110,99,32,109,97,105,110,40,41,32,123,10,9,114,101,116,117,114,110,32]++(b_ x++[59,10,125,10]):=by
   simp[iZ,ko,kT,bK,dD,kU,eX,fu,jt,dS,bW,tm,mm]
  rw[e];simp only[ac,ah,ai];omega
 unfold gx;rw[show(ko x).vs.all pd=true from rfl,show(ko x).fs.all oa=true from by simp[ko,o],decide_eq_true j];rfl
theorem CL {x:Ex} (z: ∀g lo,g.arr=(λ_=>none)->oM g lo x=.ok ()) (A:dZ x<=7):ig (ko x)=.ok ():=by
 have w:ng (ko x)=.ok (ob.addF ⟨bW,[],[.mk 6 [] [x] [] []]⟩):=by
  have a:ob.known gc bW=false:=Qc
  simp only[ng,ko,kP,jq,e_,a];simp[CR.then,Gl.addF]
 have a:ky (ob.addF ⟨bW,[],[.mk 6 [] [x] [] []]⟩) (ko x).fs=.ok ():=by
  have o: ∀g lo,g.arr=(λ_=>none)->gm g lo [.mk 6 [] [x] [] []]=.ok lo:=λg lo h=>by
   rw[gm,sJ,if_neg Qc,if_neg Qc,if_neg Qc,oL,z g lo h];rfl
  show ky _ [⟨bW,[],[.mk 6 [] [x] [] []]⟩]=_;rw[ky];show CR.then (gm _ gc [.mk 6 [] [x] [] []]) _=_;rw[o _ _ rfl];rfl
 have j:gJ (ko x).fs=.ok ():=by
  show gJ [⟨bW,[],[.mk 6 [] [x] [] []]⟩]=_;rw[gJ,if_neg (by simp[gk,vY,m_,GJ];omega)];rfl
 unfold ig;rw[w,e_,a,e_,j]
def Gq (n k:Nat):Ms:=⟨λ_=>0,λ_=>[],n,k,0⟩
theorem CH (k n:Nat) (x:Ex) (a:Rs):Ad (ko x) a (k+1) (n+1)=match ev (cx (ko x) a) k (Gq n 32) (λ_=>none) x with
  | .error o=>o
  | .ok (v,s)=>match a[s.used]? with
   |none=>⟨1,0,v%256,0,0,[],s.used⟩
   |some _=>⟨3,0,0,0,0,[],s.used+1⟩:=by
 have G:jA (ko x).fs bW=⟨bW,[],[.mk 6 [] [x] [] []]⟩:=by simp[ko,jA]
 generalize h:cx (ko x) a=C;have K:C.R=a:=by rw[<-h];rfl
 have j:st C (k+1) ⟨λ_=>0,λ_=>[],n+1,32,0⟩ (λ_=>none) (.mk 6 [] [x] [] [])=(ev C k (Gq n 32) (λ_=>none) x).then λv s=> .ok ((some v,λ_=>none),s):=by
  rw[zS Qd];rfl
 have z:i6 ⟨bW,[],[.mk 6 [] [x] [] []]⟩=32:=by simp[i6,gk,vY]
 have w:iu (uz (λ_=>none) [] []) [.mk 6 [] [x] [] []]=λ_=>none:=by simp[iu,yO,uz]
 have A:gK (λs l y=>st C (k+1) s l y) ⟨bW,[],[.mk 6 [] [x] [] []]⟩ [] (Dp (ko x) (n+1))=(ev C k (Gq n 32) (λ_=>none) x).then λv s=> .ok (v,{s with stk:=s.stk-32}):=by
  unfold gK;rw[z,if_neg (by show ¬1024<0+32;decide)];simp only[w];show(nO (λs l y=>st C (k+1) s l y) ⟨λ_=>0,λ_=>[],n+1,32,0⟩ (λ_=>none) [.mk 6 [] [x] [] []]).then _=_;simp only[nO];rw[j]
  cases ev C k (Gq n 32) (λ_=>none) x with
  |error o=>rfl
  |ok p=>rfl
 unfold Ad;rw[G,h,A]
 cases ev C k (Gq n 32) (λ_=>none) x with
 |error o=>rfl
 |ok p=>
  obtain⟨v,s⟩:=p;simp only[ER.then,gZ]
  cases a[s.used]? with
  |none=>rfl
  |some r=>rfl
end
section
open Go.RowKit
theorem az.drewN {h a:World} (j:az h a) (n:Nat):az h (a.drewN n):=j.trans ⟨rfl,rfl,rfl,ak _,λ_ _=>rfl⟩
def FC:Array Value:=(rC.flatMap λx=>[.string (J x.1),.int .i64 x.2.1,.string (J x.2.2)]).toArray
def yY (i:Nat):List UInt8×Int×List UInt8:=rC.getD i ([],0,[])
def BT (w:World):Prop:= ∃t fr,w.heap[0]? =some (.cells FC t fr)
theorem BT.ext {h w':World} (a:BT h) (j:az h w'):BT w':=let⟨t,fr,a⟩:=a;⟨t,fr,(j.obj (Array.getElem?_eq_some_iff.1 a).1).trans a⟩
theorem BT.load {a:World} (h:BT a):(loadVar 142 ⟨0,0,none⟩).run prog a=.ok (.agg FC) a:=
 let⟨t,fr,h⟩:=h;run_loadVar_row a _ t _ FC fr _ h underlying142 rfl Qb
theorem BX: ∀(i:Nat) (j:i<19) (a:World),(Instr.index 142 (.agg FC) (.int .i64 (i:Int))).run prog a=.ok (.agg #[.string (J (yY i).1),.int .i64 (yY i).2.1,.string (J (yY i).2.2)]) a
 |0,_,a=>by kernel_rfl
 |1,_,a=>by kernel_rfl
 |2,_,a=>by kernel_rfl
 |3,_,a=>by kernel_rfl
 |4,_,a=>by kernel_rfl
 |5,_,a=>by kernel_rfl
 |6,_,a=>by kernel_rfl
 |7,_,a=>by kernel_rfl
 |8,_,a=>by kernel_rfl
 |9,_,a=>by kernel_rfl
 |10,_,a=>by kernel_rfl
 |11,_,a=>by kernel_rfl
 |12,_,a=>by kernel_rfl
 |13,_,a=>by kernel_rfl
 |14,_,a=>by kernel_rfl
 |15,_,a=>by kernel_rfl
 |16,_,a=>by kernel_rfl
 |17,_,a=>by kernel_rfl
 |18,_,a=>by kernel_rfl
 |n+19,h,_=>absurd h Qa
theorem sZ {P:Program} {a:World} {ops:Array Oper} {rest:List Oper} {h:Oper} {j:Act} {Q:Exit->Act->World->Prop} (G:h.guard=none) (o:TypeId) (x:Operand) (z:h.op=.load o x) (g:Nat) (w:j.eval x=.pointer (some ⟨g,0,none⟩))
  (v:Value) (A:(loadVar o ⟨g,0,none⟩).run P a=.ok v a) (M:wpList P ops Q rest (j.put h.dst v) a):wpList P ops Q (h::rest) j a:=by
 refine wpList_plain G λO K=> ?_;unfold Oper.wp;simp[execOp,z,Instr.loadAt,Instr.sureAddr,w,A,Result.andThen];exact K _ _ M
theorem yW (s:List UInt8):fp s=((rC.drop 0).find? (λx=>x.1==s)).map (·.2):=rfl
theorem D7 {s:List UInt8} {i:Nat} (h:i<19):((rC.drop i).find? (λx=>x.1==s)).map (·.2)=if(yY i).1==s then some (yY i).2 else((rC.drop (i+1)).find? (λx=>x.1==s)).map (·.2):=by
 have a:i<rC.length:=h;have e:rC[i]=yY i:=by unfold yY;rw[ch,aO a];rfl
 rw[aD a,li,e]
 cases (yY i).1==s<;>rfl
def Fw:Bi->Ending
 |some (c,a)=> .returned (.tuple #[.int .i64 c,.string (J a),.bool true])
 |none=> .returned (.tuple #[.int .i64 0,.string (J []),.bool false])
theorem mC (s:List UInt8) (j:World) (M:BT j):Calls prog 22 #[.string (J s)] j λe w'=>e=Fw (fp s)/\az j w':=by
 have z:=M.load;have ad:=O (yW s);have ac:=O (aS j);clear M;generalize K:FC=C at z;have ae:=O K;clear K;go_enter func22,ntmps22;go_wp2_with (refine sZ rfl 142 (.global 0) rfl _ rfl _ z ?_);clear z
 go_loopw [8] (λw wr=> ∃(a:Nat),w=.int .i64 (a:Int)/\a<=19/\Hid (fp s=((rC.drop a).find? (λx=>x.1==s)).map (·.2))/\Hid (az j wr)) (λw _=>19-(intOf w).toNat)
 case atStart=>exact⟨0,rfl,by omega,ad,ac⟩
 case round=>
  obtain⟨a,rfl,af,G,V⟩:=hrel;by_cases hlt:a<19
  ·have I:(a:Int)<19:=Qa
   have ab:=BX a hlt wr;rw[ae.out]at ab;have X:=O (D7 (s:=s) hlt);generalize yY a=y at*;obtain⟨nm,c,A⟩:=y;have R:=O (V.out.alloc' (.cells #[.string (J nm),.int .i64 c,.string (J A)] 141))
   cases hs:(nm==s)with
   |true=>
    have o:=O (show fp s=some (c,A) by rw[G.out,X.out,hs];rfl);go_wp2_with (go_quiet (fail));exact bodyPost_ret (v:=.tuple #[.int .i64 c,.string (J A),.bool true]) (by simp[results,results22,go_sem]) rfl ⟨by rw[o.out];rfl,R.out.drewN _⟩
   |false=>
    have o:=O (show fp s=((rC.drop (a+1)).find? (λx=>x.1==s)).map (·.2) by rw[G.out,X.out,hs];rfl);go_wp2_with fail;go_roundw
    case rel=>exact⟨a+1,by go_num,by omega,o,R⟩
    case measure=>simp[intOf];omega
  ·have I: ¬(a:Int)<19:=Qa
   obtain rfl:a=19:=Qa
   have o:=O (show fp s=none from G.out);go_wp2_with fail;exact bodyPost_ret (v:=.tuple #[.int .i64 0,.string (J []),.bool false]) (by simp[results,results22,go_sem,J]) rfl ⟨by rw[o.out];rfl,V.out⟩
end
end Go.Proofs.YtddomeddabfinaaGreatDoor
