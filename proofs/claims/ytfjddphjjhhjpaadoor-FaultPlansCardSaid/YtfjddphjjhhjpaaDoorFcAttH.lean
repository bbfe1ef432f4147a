/-
  Cut out of an elder text of mine (AttH) by cutdecl.py.
-/
import Derived.Test.YtfjddphjjhhjpaaDoorSeq
import Derived.Test.YtfjddphjjhhjpaaDoorVoc
import Derived.Test.YtfjddphjjhhjpaaDoorSeqIn
import Derived.Test.YtfjddphjjhhjpaaDoorFcImgA
import Derived.Test.YtfjddphjjhhjpaaDoorFcChg
import Derived.Test.YtfjddphjjhhjpaaDoorFcImgB
import Derived.Test.YtfjddphjjhhjpaaDoorFcEqA
import Derived.Test.YtfjddphjjhhjpaaDoorFcLawD
import Derived.Test.YtfjddphjjhhjpaaDoorFcAttA
import Derived.Test.YtfjddphjjhhjpaaDoorFcAttB
import Derived.Test.YtfjddphjjhhjpaaDoorFcAttD
import Derived.Test.YtfjddphjjhhjpaaDoorFcAttE
import Derived.Test.YtfjddphjjhhjpaaDoorFcAttF
import Derived.Test.YtfjddphjjhhjpaaDoorFcAttG
namespace Go.Proofs.YtfjddphjjhhjpaaDoor
open Go.RowKit
set_option linter.unusedVariables false


def mb (m : Int) : UInt8 := UInt8.ofNat (m % 256).toNat
theorem wrap_u8 (m : Int) : IntKind.u8.wrap m = ((mb m).toNat : Int) := by
  unfold mb
  simp only [IntKind.wrap, IntKind.signed, IntKind.bits]
  rw [UInt8.toNat_ofNat']
  simp
  omega
def changeL (l : List UInt8) (p m : Int) : List UInt8 := if 0 < l.length ∧ 0 ≤ p then l.set (p.toNat % l.length) ((l[p.toNat % l.length]?.getD 0) ^^^ mb m) else l
theorem changeL_length (l : List UInt8) (p m : Int) : (changeL l p m).length = l.length := by
  unfold changeL; split
  · exact List.length_set
  · rfl
set_option maxRecDepth 100000 in
set_option maxHeartbeats 1000000 in
theorem change_any (A : Option Addr) (ca : Nat) (l : List UInt8) (p m : Int) (w : World) (hs : Sl w A ca l) (hl : l.length ≤ 1048576) (hp : p ≤ 9223372036854775807) :
    Calls Tryd.prog 17 #[.slice A l.length ca, .int .i64 p, .int .i64 m] w fun e w' => ∃ A' c', e = .returned (.slice A' l.length c') ∧ Own w' w.heap.size 5 (.slice A' l.length c') (changeL l p m) ∧ Ext w w' := by
  have HS := hide hs
  clear hs
  by_cases h0 : l.length = 0
  · have h0' : ¬ (0 : Int) < l.length := by omega
    have hcl : changeL l p m = l := by unfold changeL; rw [if_neg (by omega)]
    rw [hcl]
    clear h0
    go_enter Tryd.func17, Tryd.ntmps17
    go_wp2_with (go_at_call 46; refine (clone_any _ _ _ _ HS.out hl).mono ?_; rintro e w2 ⟨A2, c2, rfl, q1, q2⟩; have HQ := hide q1; have HX := hide q2; clear q1 q2)
    go_ret
    exact ⟨_, _, rfl, HQ.out, HX.out⟩
  have h0' : (0 : Int) < l.length := by omega
  by_cases hp0 : p < 0
  · have hcl : changeL l p m = l := by unfold changeL; rw [if_neg (by omega)]
    rw [hcl]
    clear h0
    go_enter Tryd.func17, Tryd.ntmps17
    go_wp2_with (go_at_call 46; refine (clone_any _ _ _ _ HS.out hl).mono ?_; rintro e w2 ⟨A2, c2, rfl, q1, q2⟩; have HQ := hide q1; have HX := hide q2; clear q1 q2)
    go_ret
    exact ⟨_, _, rfl, HQ.out, HX.out⟩
  obtain ⟨q, rfl⟩ := Int.eq_ofNat_of_zero_le (show 0 ≤ p by omega)
  have hk : q % l.length < l.length := Nat.mod_lt _ (by omega)
  have hne : l ≠ [] := fun e => h0 (by rw [e]; rfl)
  have HC := hide (show changeL l q m = l.set (q % l.length) (l[q % l.length] ^^^ mb m) by
    unfold changeL
    rw [if_pos ⟨by omega, by omega⟩, Int.toNat_natCast, List.getElem?_eq_getElem hk, Option.getD_some])
  rw [HC.out]
  have HXR := hide (u8_xor l[q % l.length] (mb m))
  have HW := hide (wrap_u8 m)
  go_enter Tryd.func17, Tryd.ntmps17
  go_wp2_with (go_at_call 46; refine (clone_any _ _ _ _ HS.out hl).mono ?_; rintro e w2 ⟨A2, c2, rfl, q1, q2⟩; obtain ⟨g2, rfl, hb2, hg2, hcap2, hcell2, hfr2⟩ := q1.at_ hne; have hc2 := hcell2 _ hk; have hw := HW.out; have HQ := hide q1; have HX := hide q2; clear q1 q2 hcell2)
  rw [HXR.out]
  go_ret
  exact ⟨_, _, rfl, HQ.out.set _ _, HX.out.set (p := ⟨g2, q % l.length, none⟩) hb2 _⟩
end Go.Proofs.YtfjddphjjhhjpaaDoor
