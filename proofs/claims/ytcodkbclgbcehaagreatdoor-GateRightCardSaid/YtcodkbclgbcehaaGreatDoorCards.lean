/-
  DERIVED. GIVEN WITH THE SEED: THE CARDS: each row of YtcodkbclgbcehaaGreatDoorRows.lean that lists a variable, with what it lists TIED to the program's text (the seventh form; the later family's looks); each row that meets fmt, with fmt's text TOLD by the authors' own Lean function (tested against real Go, not proved from fmt's source: count such statements apart). THE CARD IS WHAT COUNTS. Prove the row's statement (the work); the ties are given (YtcodkbclgbcehaaGreatDoorTie.lean); close each card by the builder's one call (the guide's Derived/Test/ToyasCard.lean, 'card_holds'). Laid BY PROGRAM, IN A SANDBOX (cutbox-door.mjs). By AI agents, Wed Nov 11 2026. No macro, syntax, notation, axiom, sorry.
-/
import Derived.Test.YtcodkbclgbcehaaGreatDoorRows
import GoSem.ClaimSeven
namespace Go.Proofs.YtcodkbclgbcehaaGreatDoor
namespace Rows

/-- THE TIED CARD OF 'snafflelaw19.GateRight'. -/
def gateRightCard : Claim7 := { stood := { row := gateRightRow, standIns := [], harness := (true, "f48168ec30cd42728851112dbfdc9a8c28f0a92ef8c00d2732383289e39d5db7"), looks := true }, kinds := [], alts := [], laidByText := true, laidKinds := [.data, .data, .data, .sentinel, .sentinel], laidTests := true, laidLooks := .later }
def GateRightCardSaid : Prop := Claim7.holds Tryz.pinned (.plain (OpenSpec.ofChange gateRightSpec)) gateRightCard

/-- THE TIED CARD OF 'snafflelaw19.GateStays'. -/
def gateStaysCard : Claim7 := { stood := { row := gateStaysRow, standIns := [], harness := (true, "f48168ec30cd42728851112dbfdc9a8c28f0a92ef8c00d2732383289e39d5db7"), looks := true }, kinds := [], alts := [], laidByText := true, laidKinds := [.data, .data, .data, .sentinel, .sentinel], laidTests := true, laidLooks := .later }
def GateStaysCardSaid : Prop := Claim7.holds Tryz.pinned (.plain (OpenSpec.ofChange gateStaysSpec)) gateStaysCard

/-- THE TIED CARD OF 'snafflelaw19.GateDisk'. -/
def gateDiskCard : Claim7 := { stood := { row := gateDiskRow, standIns := [], harness := (true, "f48168ec30cd42728851112dbfdc9a8c28f0a92ef8c00d2732383289e39d5db7"), looks := true }, kinds := [], alts := [], laidByText := true, laidKinds := [.data, .data, .data, .sentinel, .sentinel], laidTests := true, laidLooks := .later }
def GateDiskCardSaid : Prop := Claim7.holds Tryz.pinned (.plain (OpenSpec.ofChange gateDiskSpec)) gateDiskCard

/-- THE TIED CARD OF 'snafflelaw19.GateFolds'. -/
def gateFoldsCard : Claim7 := { stood := { row := gateFoldsRow, standIns := [], harness := (true, "f48168ec30cd42728851112dbfdc9a8c28f0a92ef8c00d2732383289e39d5db7"), looks := true }, kinds := [], alts := [], laidByText := true, laidKinds := [.data, .data, .data, .sentinel, .sentinel], laidTests := true, laidLooks := .later }
def GateFoldsCardSaid : Prop := Claim7.holds Tryz.pinned (.plain (OpenSpec.ofChange gateFoldsSpec)) gateFoldsCard

/-- THE TIED CARD OF 'snafflelaw19.GateGoes'. -/
def gateGoesCard : Claim7 := { stood := { row := gateGoesRow, standIns := [], harness := (true, "f48168ec30cd42728851112dbfdc9a8c28f0a92ef8c00d2732383289e39d5db7"), looks := true }, kinds := [], alts := [], laidByText := true, laidKinds := [.data, .data, .data, .sentinel, .sentinel], laidTests := true, laidLooks := .later }
def GateGoesCardSaid : Prop := Claim7.holds Tryz.pinned (.plain (OpenSpec.ofChange gateGoesSpec)) gateGoesCard

/-- THE SECOND FORM's CARD OF 'snafflelaw19.GateRight'. -/
def gateRightUptoCard : Claim7 := { stood := { row := gateRightUptoRow, standIns := [], harness := (true, "f48168ec30cd42728851112dbfdc9a8c28f0a92ef8c00d2732383289e39d5db7"), looks := true }, kinds := [], alts := [], laidByText := true, laidKinds := [.data, .data, .data, .sentinel, .sentinel], laidTests := true, laidLooks := .later }
def GateRightUptoCardSaid : Prop := Claim7.holds Tryz.pinned (.plain (OpenSpec.upto gateRightSpec)) gateRightUptoCard

/-- THE SECOND FORM's CARD OF 'snafflelaw19.GateStays'. -/
def gateStaysUptoCard : Claim7 := { stood := { row := gateStaysUptoRow, standIns := [], harness := (true, "f48168ec30cd42728851112dbfdc9a8c28f0a92ef8c00d2732383289e39d5db7"), looks := true }, kinds := [], alts := [], laidByText := true, laidKinds := [.data, .data, .data, .sentinel, .sentinel], laidTests := true, laidLooks := .later }
def GateStaysUptoCardSaid : Prop := Claim7.holds Tryz.pinned (.plain (OpenSpec.upto gateStaysSpec)) gateStaysUptoCard

/-- THE SECOND FORM's CARD OF 'snafflelaw19.GateDisk'. -/
def gateDiskUptoCard : Claim7 := { stood := { row := gateDiskUptoRow, standIns := [], harness := (true, "f48168ec30cd42728851112dbfdc9a8c28f0a92ef8c00d2732383289e39d5db7"), looks := true }, kinds := [], alts := [], laidByText := true, laidKinds := [.data, .data, .data, .sentinel, .sentinel], laidTests := true, laidLooks := .later }
def GateDiskUptoCardSaid : Prop := Claim7.holds Tryz.pinned (.plain (OpenSpec.upto gateDiskSpec)) gateDiskUptoCard

/-- THE SECOND FORM's CARD OF 'snafflelaw19.GateFolds'. -/
def gateFoldsUptoCard : Claim7 := { stood := { row := gateFoldsUptoRow, standIns := [], harness := (true, "f48168ec30cd42728851112dbfdc9a8c28f0a92ef8c00d2732383289e39d5db7"), looks := true }, kinds := [], alts := [], laidByText := true, laidKinds := [.data, .data, .data, .sentinel, .sentinel], laidTests := true, laidLooks := .later }
def GateFoldsUptoCardSaid : Prop := Claim7.holds Tryz.pinned (.plain (OpenSpec.upto gateFoldsSpec)) gateFoldsUptoCard

/-- THE SECOND FORM's CARD OF 'snafflelaw19.GateGoes'. -/
def gateGoesUptoCard : Claim7 := { stood := { row := gateGoesUptoRow, standIns := [], harness := (true, "f48168ec30cd42728851112dbfdc9a8c28f0a92ef8c00d2732383289e39d5db7"), looks := true }, kinds := [], alts := [], laidByText := true, laidKinds := [.data, .data, .data, .sentinel, .sentinel], laidTests := true, laidLooks := .later }
def GateGoesUptoCardSaid : Prop := Claim7.holds Tryz.pinned (.plain (OpenSpec.upto gateGoesSpec)) gateGoesUptoCard
end Rows
end Go.Proofs.YtcodkbclgbcehaaGreatDoor
