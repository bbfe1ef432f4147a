/-
  DERIVED. GIVEN WITH THE SEED: THE CARDS: each row of YtfjddphjjhhjpaaDoorRows.lean that lists a variable, with what it lists TIED to the program's text (the seventh form; the later family's looks); each row that meets fmt, with fmt's text TOLD by the authors' own Lean function (tested against real Go, not proved from fmt's source: count such statements apart). THE CARD IS WHAT COUNTS. Prove the row's statement (the work); the ties are given (YtfjddphjjhhjpaaDoorTie.lean); close each card by the builder's one call (the guide's Derived/Test/ToyasCard.lean, 'card_holds'). Laid BY PROGRAM, IN A SANDBOX (cutbox-door.mjs). By AI agents, Wed Nov 11 2026. No macro, syntax, notation, axiom, sorry.
-/
import Derived.Test.YtfjddphjjhhjpaaDoorRows
import GoSem.ClaimSeven
namespace Go.Proofs.YtfjddphjjhhjpaaDoor
namespace Rows

/-- THE TIED CARD OF 'ratoonlaw27.FaultPlans'. -/
def faultPlansCard : Claim7 := { stood := { row := faultPlansRow, standIns := [], harness := (true, "d86684b19c8b10f46650dd4200db6f029df529b5cb44a65a163c0068a217120a"), looks := true }, kinds := [], alts := [], laidByText := true, laidKinds := [.data, .data, .data, .sentinel, .sentinel, .listed, .data], laidTests := true, laidLooks := .later }
def FaultPlansCardSaid : Prop := Claim7.holds Tryd.pinned (.plain (OpenSpec.ofChange faultPlansSpec)) faultPlansCard

/-- THE TIED CARD OF 'ratoonlaw27.FaultChange'. -/
def faultChangeCard : Claim7 := { stood := { row := faultChangeRow, standIns := [], harness := (true, "d86684b19c8b10f46650dd4200db6f029df529b5cb44a65a163c0068a217120a"), looks := true }, kinds := [], alts := [], laidByText := true, laidKinds := [.data, .data, .data, .sentinel, .sentinel, .listed, .data], laidTests := true, laidLooks := .later }
def FaultChangeCardSaid : Prop := Claim7.holds Tryd.pinned (.plain (OpenSpec.ofChange faultChangeSpec)) faultChangeCard

/-- THE TIED CARD OF 'ratoonlaw27.FaultInput'. -/
def faultInputCard : Claim7 := { stood := { row := faultInputRow, standIns := [], harness := (true, "d86684b19c8b10f46650dd4200db6f029df529b5cb44a65a163c0068a217120a"), looks := true }, kinds := [], alts := [], laidByText := true, laidKinds := [.data, .data, .data, .sentinel, .sentinel, .listed, .data], laidTests := true, laidLooks := .later }
def FaultInputCardSaid : Prop := Claim7.holds Tryd.pinned (.plain (OpenSpec.ofChange faultInputSpec)) faultInputCard

/-- THE TIED CARD OF 'ratoonlaw27.FaultDevice'. -/
def faultDeviceCard : Claim7 := { stood := { row := faultDeviceRow, standIns := [], harness := (true, "d86684b19c8b10f46650dd4200db6f029df529b5cb44a65a163c0068a217120a"), looks := true }, kinds := [], alts := [], laidByText := true, laidKinds := [.data, .data, .data, .sentinel, .sentinel, .listed, .data], laidTests := true, laidLooks := .later }
def FaultDeviceCardSaid : Prop := Claim7.holds Tryd.pinned (.plain (OpenSpec.ofChange faultDeviceSpec)) faultDeviceCard

/-- THE TIED CARD OF 'ratoonlaw27.FaultOutput'. -/
def faultOutputCard : Claim7 := { stood := { row := faultOutputRow, standIns := [], harness := (true, "d86684b19c8b10f46650dd4200db6f029df529b5cb44a65a163c0068a217120a"), looks := true }, kinds := [], alts := [], laidByText := true, laidKinds := [.data, .data, .data, .sentinel, .sentinel, .listed, .data], laidTests := true, laidLooks := .later }
def FaultOutputCardSaid : Prop := Claim7.holds Tryd.pinned (.plain (OpenSpec.ofChange faultOutputSpec)) faultOutputCard

/-- THE SECOND FORM's CARD OF 'ratoonlaw27.FaultPlans'. -/
def faultPlansUptoCard : Claim7 := { stood := { row := faultPlansUptoRow, standIns := [], harness := (true, "d86684b19c8b10f46650dd4200db6f029df529b5cb44a65a163c0068a217120a"), looks := true }, kinds := [], alts := [], laidByText := true, laidKinds := [.data, .data, .data, .sentinel, .sentinel, .listed, .data], laidTests := true, laidLooks := .later }
def FaultPlansUptoCardSaid : Prop := Claim7.holds Tryd.pinned (.plain (OpenSpec.upto faultPlansSpec)) faultPlansUptoCard

/-- THE SECOND FORM's CARD OF 'ratoonlaw27.FaultChange'. -/
def faultChangeUptoCard : Claim7 := { stood := { row := faultChangeUptoRow, standIns := [], harness := (true, "d86684b19c8b10f46650dd4200db6f029df529b5cb44a65a163c0068a217120a"), looks := true }, kinds := [], alts := [], laidByText := true, laidKinds := [.data, .data, .data, .sentinel, .sentinel, .listed, .data], laidTests := true, laidLooks := .later }
def FaultChangeUptoCardSaid : Prop := Claim7.holds Tryd.pinned (.plain (OpenSpec.upto faultChangeSpec)) faultChangeUptoCard

/-- THE SECOND FORM's CARD OF 'ratoonlaw27.FaultInput'. -/
def faultInputUptoCard : Claim7 := { stood := { row := faultInputUptoRow, standIns := [], harness := (true, "d86684b19c8b10f46650dd4200db6f029df529b5cb44a65a163c0068a217120a"), looks := true }, kinds := [], alts := [], laidByText := true, laidKinds := [.data, .data, .data, .sentinel, .sentinel, .listed, .data], laidTests := true, laidLooks := .later }
def FaultInputUptoCardSaid : Prop := Claim7.holds Tryd.pinned (.plain (OpenSpec.upto faultInputSpec)) faultInputUptoCard

/-- THE SECOND FORM's CARD OF 'ratoonlaw27.FaultDevice'. -/
def faultDeviceUptoCard : Claim7 := { stood := { row := faultDeviceUptoRow, standIns := [], harness := (true, "d86684b19c8b10f46650dd4200db6f029df529b5cb44a65a163c0068a217120a"), looks := true }, kinds := [], alts := [], laidByText := true, laidKinds := [.data, .data, .data, .sentinel, .sentinel, .listed, .data], laidTests := true, laidLooks := .later }
def FaultDeviceUptoCardSaid : Prop := Claim7.holds Tryd.pinned (.plain (OpenSpec.upto faultDeviceSpec)) faultDeviceUptoCard

/-- THE SECOND FORM's CARD OF 'ratoonlaw27.FaultOutput'. -/
def faultOutputUptoCard : Claim7 := { stood := { row := faultOutputUptoRow, standIns := [], harness := (true, "d86684b19c8b10f46650dd4200db6f029df529b5cb44a65a163c0068a217120a"), looks := true }, kinds := [], alts := [], laidByText := true, laidKinds := [.data, .data, .data, .sentinel, .sentinel, .listed, .data], laidTests := true, laidLooks := .later }
def FaultOutputUptoCardSaid : Prop := Claim7.holds Tryd.pinned (.plain (OpenSpec.upto faultOutputSpec)) faultOutputUptoCard
end Rows
end Go.Proofs.YtfjddphjjhhjpaaDoor
