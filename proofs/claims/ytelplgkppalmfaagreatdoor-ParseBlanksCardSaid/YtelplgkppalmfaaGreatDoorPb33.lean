/-
  Parts of the proof: TheW VrA VrB VrC VrD VaLexZf VrE VrF VrG VrH VrJ VrK.
-/
import Derived.Test.YtelplgkppalmfaaGreatDoorPb32
import Derived.Test.YtelplgkppalmfaaGreatDoorPb26
import Derived.Test.YtelplgkppalmfaaGreatDoorPb17
import Derived.Test.YtelplgkppalmfaaGreatDoorPb19
import Derived.Test.YtelplgkppalmfaaGreatDoorPb16
import Derived.Test.YtelplgkppalmfaaGreatDoorPb18
import Derived.Test.YtelplgkppalmfaaGreatDoorPb08
import Derived.Test.YtelplgkppalmfaaGreatDoorPb09
import Derived.Test.YtelplgkppalmfaaGreatDoorPb15
import Derived.Test.YtelplgkppalmfaaGreatDoorPb21
import Derived.Test.YtelplgkppalmfaaGreatDoorPb22
import Derived.Test.YtelplgkppalmfaaGreatDoorPb25
import Derived.Test.YtelplgkppalmfaaGreatDoorPb29
set_option maxRecDepth 100000
set_option maxHeartbeats 8000000
set_option linter.unusedVariables false
set_option linter.unusedSimpArgs false
namespace Go.Proofs.YtelplgkppalmfaaGreatDoor
open Go.Proofs.Tryz
open Go.RowKit
theorem theirs_w {p:Pg} (hw:pgW p<=6000000) {P:Nat->Prop} {w:World} {A B:Option Addr} {n c m d:Nat} (hV:RdV w P (.slice A n c) p.vs) (hF:RdF w P (.slice B m d) p.fs):
  Calls prog 13 #[.agg #[.slice A n c, .slice B m d]] w fun e w'=>Ext w w'/\ ∃A' n' c' B' m' d',e= .returned (.agg #[.slice A' n' c', .slice B' m' d'])/\RdV w' (fun _=>True) (.slice A' n' c') p.vs/\RdF w' (fun _=>True) (.slice B' m' d') p.fs:=by
 have h1:p.vs.length<=pgW p:=by
  have:=sum_le (fun _:Vr=>1) (fun v=>v.nm.length+1) p.vs (fun v _=>by omega);rw[sum_const]at this;unfold pgW;omega
 have h2:p.fs.length<=pgW p:=by
  have:=sum_le (fun _:Fc=>1) (fun f=>f.wt+1) p.fs (fun v _=>by omega);rw[sum_const]at this;unfold pgW;omega
 refine(theirs_any p (by omega) (by omega) (fun f hf=>by have:=pgW_f hf;unfold Fc.wt at this;omega) P w A B n c m d hV hF).mono fun e w' hh=> ?_;obtain⟨hE,A',n',c',B',m',d',he,h1,h2⟩:=hh;exact⟨hE,A',n',c',B',m',d',he,h1.keep ⟨Nat.le_refl _,fun _ _ _=>rfl⟩ (fun _ _ _=>trivial),h2.keep ⟨Nat.le_refl _,fun _ _ _=>rfl⟩ (fun _ _ _=>trivial)⟩
end Go.Proofs.YtelplgkppalmfaaGreatDoor
namespace Go.Proofs.YtelplgkppalmfaaGreatDoor
open Go.Proofs.Tryz
open Go.RowKit
end Go.Proofs.YtelplgkppalmfaaGreatDoor
namespace Go.Proofs.YtelplgkppalmfaaGreatDoor
open Go.Proofs.Tryz
open Go.RowKit
end Go.Proofs.YtelplgkppalmfaaGreatDoor
namespace Go.Proofs.YtelplgkppalmfaaGreatDoor
open Go.Proofs.Tryz
open Go.RowKit
end Go.Proofs.YtelplgkppalmfaaGreatDoor
namespace Go.Proofs.YtelplgkppalmfaaGreatDoor
open Go.Proofs.Tryz
open Go.RowKit
end Go.Proofs.YtelplgkppalmfaaGreatDoor
namespace Go.Proofs.YtelplgkppalmfaaGreatDoor
open Go.Proofs.Tryz
open Go.RowKit
theorem enc_dig (d:Nat) (h:d<10):Utf8.encode (48+(d:Int))=str [UInt8.ofNat (48+d)]:=by
 have hc:d=0\/d=1\/d=2\/d=3\/d=4\/d=5\/d=6\/d=7\/d=8\/d=9:=by omega
 rcases hc with rfl|rfl|rfl|rfl|rfl|rfl|rfl|rfl|rfl|rfl<;>rfl
theorem rdigits_any: ∀(k n:Nat) (w:World),n<10^(k+1)->n<=2147483647->Calls prog 56 #[.int .i64 (n:Int)] w fun e w'=>e= .returned (.string (str (decL n)))/\w=w':=by
 intro k
 induction k with
 |zero=>
  intro n w hn hm;have hn:n<10:=by simpa using hn
  have hn':(n:Int)<10:=by omega
  have he:=enc_dig n hn;have HD:=hide (show decL n=[UInt8.ofNat (48+n)] by rw[decL,if_pos hn]);generalize UInt8.ofNat (48+n)=y at*;go_enter func56,ntmps56;go_wp2_with fail;go_ret;exact⟨by rw[HD.out];rfl,rfl⟩
 |succ k ih=>
  intro n w hn hm;by_cases hn10:n<10
  ·have hn':(n:Int)<10:=by omega
   have he:=enc_dig n hn10;have HD:=hide (show decL n=[UInt8.ofNat (48+n)] by rw[decL,if_pos hn10]);generalize UInt8.ofNat (48+n)=y at*;clear ih;go_enter func56,ntmps56;go_wp2_with fail;go_ret;exact⟨by rw[HD.out];rfl,rfl⟩
  ·have hn': ¬(n:Int)<10:=by omega
   have HI:=hide (ih (n/10) w (by rw[Nat.pow_succ]at hn;omega) (by omega));have hq:((n/10:Nat):Int)=(n:Int)/10:=by omega
   rw[hq]at HI;have he:=enc_dig (n%10) (Nat.mod_lt _ (by omega));have hr:((n%10:Nat):Int)=(n:Int)%10:=by omega
   rw[hr]at he;have HD:=hide (show decL n=decL (n/10)++[UInt8.ofNat (48+n%10)] by rw[decL,if_neg hn10]);have hlen:=decL_length 9 (n/10) (by omega);generalize decL (n/10)=x at*;generalize UInt8.ofNat (48+n%10)=y at*;have hsx:(str x).size=x.length:=str_size x;have hsy:(str [y]).size=1:=rfl;have hxy:str x++str [y]=str (x++[y]):=str_app x [y];clear ih hq hr;go_enter func56,ntmps56;go_wp2_with (go_at_call 56;refine HI.out.mono ?_;rintro e w' ⟨rfl,rfl⟩);go_ret;exact⟨by rw[HD.out];rfl,rfl⟩
end Go.Proofs.YtelplgkppalmfaaGreatDoor
namespace Go.Proofs.YtelplgkppalmfaaGreatDoor
open Go.Proofs.Tryz
open Go.RowKit
end Go.Proofs.YtelplgkppalmfaaGreatDoor
namespace Go.Proofs.YtelplgkppalmfaaGreatDoor
open Go.Proofs.Tryz
open Go.RowKit
section
variable {nm:List UInt8} {body els:List St} {P:Nat->Prop} {w:World} {A B C:Option Addr} {n c nb cb nl cl i:Nat}
end
end Go.Proofs.YtelplgkppalmfaaGreatDoor
namespace Go.Proofs.YtelplgkppalmfaaGreatDoor
open Go.Proofs.Tryz
open Go.RowKit
end Go.Proofs.YtelplgkppalmfaaGreatDoor
namespace Go.Proofs.YtelplgkppalmfaaGreatDoor
open Go.Proofs.Tryz
open Go.RowKit
end Go.Proofs.YtelplgkppalmfaaGreatDoor
namespace Go.Proofs.YtelplgkppalmfaaGreatDoor
open Go.Proofs.Tryz
open Go.RowKit
end Go.Proofs.YtelplgkppalmfaaGreatDoor
namespace Go.Proofs.YtelplgkppalmfaaGreatDoor
open Go.Proofs.Tryz
open Go.RowKit
end Go.Proofs.YtelplgkppalmfaaGreatDoor
