/-
  Parts of the proof: EqW EqX.
-/
import Derived.Test.YtddomeddabfinaaGreatDoorTu00
import Derived.Test.YtddomeddabfinaaGreatDoorTu33
import Derived.Test.YtddomeddabfinaaGreatDoorTu09
import Derived.Test.YtddomeddabfinaaGreatDoorTu19
set_option maxRecDepth 100000
set_option maxHeartbeats 8000000
set_option linter.unusedVariables false
set_option linter.unusedSimpArgs false
set_option linter.unusedSectionVars false
namespace Go.Proofs.YtddomeddabfinaaGreatDoor
open Go.Proofs.Tryz
section
open Go.RowKit
theorem uB {a b:Bool} (h:a=b):Ending.returned (.bool a)= .returned (.bool b):=by rw[h]
end
section
open Go.RowKit
theorem uG {w:World} {P:Nat->Prop} {A:Option Addr} {n c:Nat} {ls:List Fc} (h:fO w P (.slice A n c) ls) (i:Nat) (hi:i<ls.length):
  ∃b o pv bv,A=some ⟨b,o,none⟩/\b<w.heap.size/\w.cell? ⟨b,o+i*3,none⟩=some (.string (ag ls[i].nm))/\w.cell? ⟨b,o+i*3+1,none⟩=some pv/\w.cell? ⟨b,o+i*3+2,none⟩=some bv/\j7 w P pv ls[i].ps/\cM w P bv ls[i].body:=by
 obtain⟨A',c',hv,h⟩:=h;injection hv with h1 h2 h3;rcases h with h|⟨_,_,b,o,ha,_,hb,pv,bv,hc⟩
 ·subst h;simp at hi
 ·obtain⟨q0,q1,q2,q3,q4⟩:=hc i hi;exact⟨b,o,pv i,bv i,by rw[h1];exact ha,hb,q0,q1,q2,q3,q4⟩
theorem uE {w:World} {P:Nat->Prop} {A:Option Addr} {n c:Nat} {ls:List Vr} (h:fH w P (.slice A n c) ls) (i:Nat) (hi:i<ls.length):
  ∃b o,A=some ⟨b,o,none⟩/\b<w.heap.size/\w.cell? ⟨b,o+i*2,none⟩=some (.string (ag ls[i].nm))/\w.cell? ⟨b,o+i*2+1,none⟩=some (.int .i64 ls[i].sz):=by
 obtain⟨A',c',hv,h⟩:=h;injection hv with h1 h2 h3;rcases h with h|⟨_,_,b,o,ha,_,hb,hc⟩
 ·subst h;simp at hi
 ·exact⟨b,o,by rw[h1];exact ha,hb,(hc i hi).1,(hc i hi).2⟩
theorem rU {w:World} {P:Nat->Prop} {A:Option Addr} {n c:Nat} {ls:List Fc} (h:fO w P (.slice A n c) ls):n=ls.length:=by
 obtain⟨A',c',hv,_⟩:=h;injection hv with h1 h2 h3
theorem rR {w:World} {P:Nat->Prop} {A:Option Addr} {n c:Nat} {ls:List Vr} (h:fH w P (.slice A n c) ls):n=ls.length:=by
 obtain⟨A',c',hv,_⟩:=h;injection hv with h1 h2 h3
theorem pE {w:World} {P:Nat->Prop} {v:Value} {ls:List (List UInt8)} (h:j7 w P v ls): ∃A c,v= .slice A ls.length c:=by
 obtain⟨A,c,hv,_⟩:=h;exact⟨A,c,hv⟩
end
end Go.Proofs.YtddomeddabfinaaGreatDoor
