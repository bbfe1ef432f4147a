/-
  Parts of the proof: TyBa.
-/
import Derived.Test.YtddomeddabfinaaGreatDoorTz00
import Derived.Test.YtddomeddabfinaaGreatDoorTz18
import Derived.Test.YtddomeddabfinaaGreatDoorTz26
import Derived.Test.YtddomeddabfinaaGreatDoorTz37
set_option maxRecDepth 100000
set_option maxHeartbeats 8000000
set_option linter.unusedVariables false
set_option linter.unusedSimpArgs false
set_option linter.unusedSectionVars false
namespace Go.Proofs.YtddomeddabfinaaGreatDoor
open Go.Proofs.Tryz
open Go.RowKit
def r5 (k:Nat) (a b:Int):Ex:=kO (kM.getD k []) (cS a) (cS b)
def y7:List Nat:=[4,5,6,7,8,12,13]
def lB (k:Nat):Nat:=y7.getD k 0
theorem k7 {k:Nat} (h:k<7):k=0\/k=1\/k=2\/k=3\/k=4\/k=5\/k=6:=by omega
theorem Cp {k:Nat} (hk:k<7) {a b:Int} (ha:eO a) (hb:eO b):(r5 k a b).ok=true:=by
 refine AL ?_ (nu ha) (nu hb);rcases k7 hk with rfl|rfl|rfl|rfl|rfl|rfl|rfl<;>decide
theorem AO (k:Nat) (a b:Int):(r5 k a b).dep<=19:=by
 have:=qX a;have:=qX b;simp only[r5,kO,Ex.dep,fA];omega
theorem yM {k:Nat} (hk:k<7) (a b:Int):(r5 k a b).wt<=200:=by
 have:=t8 a;have:=t8 b;rcases k7 hk with rfl|rfl|rfl|rfl|rfl|rfl|rfl<;>simp[r5,kO,kM,Ex.wt,fL]<;>omega
theorem yN (k:Nat) (a b:Int):cX (r5 k a b)<=7:=by
 have:=pg a;have:=pg b;simp only[r5,kO,cX,eL]
 (repeat' split)<;>omega
theorem Cq (k:Nat) (a b:Int) (g:Gl) (lo:Ls):lw g lo (r5 k a b)= .ok ():=by
 rw[r5,kO,lw,if_neg (by decide),if_neg (by decide),if_neg (by decide),if_neg (by decide),if_pos (.inr rfl),l7,t_,dV,l7,t_];rfl
theorem lD (z:Int):kI z=wrap32 z:=by
 unfold kI wrap32;simp[IntKind.wrap,IntKind.signed,IntKind.bits];split<;>omega
theorem BG {k:Nat} (hk:k<7) {a b:Int} (ha:eO a) (hb:eO b):lM (eS (r5 k a b)) [] 100=if(k=3\/k=4)/\b=0 then⟨2,0,0,0,0,[],0⟩else⟨1,0,eP (lB k) a b%256,0,0,[],0⟩:=by
 show xf (eS (r5 k a b)) [] (199+1) (99+1)=_;rw[tQ 199 99];have h1:jM (kM.getD k [])=false/\m' (kM.getD k [])=false:=by rcases k7 hk with rfl|rfl|rfl|rfl|rfl|rfl|rfl<;>decide
 have e:=Ce (C:=cx (eS (r5 k a b)) []) (m:=195) (s:=yY 99 32) (l:=fun _=>none) h1.1 h1.2 (by decide) ha hb;show(match ev (cx (eS (r5 k a b)) []) 199 (yY 99 32) (fun _=>none) (kO (kM.getD k []) (cS a) (cS b))with| .error o=>o| .ok (v,s)=>_)=_;rw[e];have hu:((yY 99 32).spend (jV a+jV b+1)).used=0:=rfl;have hf:((yY 99 32).spend (jV a+jV b+1)).fails=⟨2,0,0,0,0,[],0⟩:=rfl;generalize (yY 99 32).spend (jV a+jV b+1)=s at*;rcases k7 hk with rfl|rfl|rfl|rfl|rfl|rfl|rfl
 ·simp[kM,fM,hu,lB,y7,eP,lD]
 ·simp[kM,fM,hu,lB,y7,eP,lD]
 ·simp[kM,fM,hu,lB,y7,eP,lD]
 ·by_cases h0:b=0<;>simp[kM,fM,hu,hf,h0,lB,y7,eP,lD]
 ·by_cases h0:b=0
  ·simp[kM,fM,hu,hf,h0,lB,y7,eP]
  ·simp[kM,fM,hu,hf,h0,lB,y7,eP,nF (nH ha)]
 ·simp[kM,fM,hu,lB,y7,eP,k9]
 ·simp[kM,fM,hu,lB,y7,eP,k9]
end Go.Proofs.YtddomeddabfinaaGreatDoor
