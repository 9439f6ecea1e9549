/-
  DERIVED. GIVEN WITH THE SEED: THE CARDS: each row of YtkndbmahpiebkaaGreatDoorRows.lean that lists a variable, with what it lists TIED to the program's text (the seventh form; the later family's looks); each row that meets fmt, with fmt's text TOLD by the authors' own Lean function (tested against real Go, not proved from fmt's source: count such statements apart). THE CARD IS WHAT COUNTS. Prove the row's statement (the work); the ties are given (YtkndbmahpiebkaaGreatDoorTie.lean); close each card by the builder's one call (the guide's Derived/Test/ToyasCard.lean, 'card_holds'). Laid BY PROGRAM, IN A SANDBOX (cutbox-door.mjs). By AI agents, Wed Nov 11 2026. No macro, syntax, notation, axiom, sorry.
-/
import Derived.Test.YtkndbmahpiebkaaGreatDoorRows
import GoSem.ClaimSeven
namespace Go.Proofs.YtkndbmahpiebkaaGreatDoor
namespace Rows

/-- THE TIED CARD OF 'snafflelaw15.StoreRight'. -/
def storeRightCard : Claim7 := { stood := { row := storeRightRow, standIns := [], harness := (true, "f38ac25db2dcaf727463dd2f7200027a90d3db7dd677272f6433bb64e3097333"), looks := true }, kinds := [], alts := [], laidByText := true, laidKinds := [.data, .data, .data, .sentinel, .sentinel], laidTests := true, laidLooks := .later }
def StoreRightCardSaid : Prop := Claim7.holds Tryz.pinned (.plain (OpenSpec.ofChange storeRightSpec)) storeRightCard

/-- THE TIED CARD OF 'snafflelaw15.StoreKeeps'. -/
def storeKeepsCard : Claim7 := { stood := { row := storeKeepsRow, standIns := [], harness := (true, "f38ac25db2dcaf727463dd2f7200027a90d3db7dd677272f6433bb64e3097333"), looks := true }, kinds := [], alts := [], laidByText := true, laidKinds := [.data, .data, .data, .sentinel, .sentinel], laidTests := true, laidLooks := .later }
def StoreKeepsCardSaid : Prop := Claim7.holds Tryz.pinned (.plain (OpenSpec.ofChange storeKeepsSpec)) storeKeepsCard

/-- THE TIED CARD OF 'snafflelaw15.StoreOthers'. -/
def storeOthersCard : Claim7 := { stood := { row := storeOthersRow, standIns := [], harness := (true, "f38ac25db2dcaf727463dd2f7200027a90d3db7dd677272f6433bb64e3097333"), looks := true }, kinds := [], alts := [], laidByText := true, laidKinds := [.data, .data, .data, .sentinel, .sentinel], laidTests := true, laidLooks := .later }
def StoreOthersCardSaid : Prop := Claim7.holds Tryz.pinned (.plain (OpenSpec.ofChange storeOthersSpec)) storeOthersCard

/-- THE TIED CARD OF 'snafflelaw15.StoreRow'. -/
def storeRowCard : Claim7 := { stood := { row := storeRowRow, standIns := [], harness := (true, "f38ac25db2dcaf727463dd2f7200027a90d3db7dd677272f6433bb64e3097333"), looks := true }, kinds := [], alts := [], laidByText := true, laidKinds := [.data, .data, .data, .sentinel, .sentinel], laidTests := true, laidLooks := .later }
def StoreRowCardSaid : Prop := Claim7.holds Tryz.pinned (.plain (OpenSpec.ofChange storeRowSpec)) storeRowCard

/-- THE SECOND FORM's CARD OF 'snafflelaw15.StoreRight'. -/
def storeRightUptoCard : Claim7 := { stood := { row := storeRightUptoRow, standIns := [], harness := (true, "f38ac25db2dcaf727463dd2f7200027a90d3db7dd677272f6433bb64e3097333"), looks := true }, kinds := [], alts := [], laidByText := true, laidKinds := [.data, .data, .data, .sentinel, .sentinel], laidTests := true, laidLooks := .later }
def StoreRightUptoCardSaid : Prop := Claim7.holds Tryz.pinned (.plain (OpenSpec.upto storeRightSpec)) storeRightUptoCard

/-- THE SECOND FORM's CARD OF 'snafflelaw15.StoreKeeps'. -/
def storeKeepsUptoCard : Claim7 := { stood := { row := storeKeepsUptoRow, standIns := [], harness := (true, "f38ac25db2dcaf727463dd2f7200027a90d3db7dd677272f6433bb64e3097333"), looks := true }, kinds := [], alts := [], laidByText := true, laidKinds := [.data, .data, .data, .sentinel, .sentinel], laidTests := true, laidLooks := .later }
def StoreKeepsUptoCardSaid : Prop := Claim7.holds Tryz.pinned (.plain (OpenSpec.upto storeKeepsSpec)) storeKeepsUptoCard

/-- THE SECOND FORM's CARD OF 'snafflelaw15.StoreOthers'. -/
def storeOthersUptoCard : Claim7 := { stood := { row := storeOthersUptoRow, standIns := [], harness := (true, "f38ac25db2dcaf727463dd2f7200027a90d3db7dd677272f6433bb64e3097333"), looks := true }, kinds := [], alts := [], laidByText := true, laidKinds := [.data, .data, .data, .sentinel, .sentinel], laidTests := true, laidLooks := .later }
def StoreOthersUptoCardSaid : Prop := Claim7.holds Tryz.pinned (.plain (OpenSpec.upto storeOthersSpec)) storeOthersUptoCard

/-- THE SECOND FORM's CARD OF 'snafflelaw15.StoreRow'. -/
def storeRowUptoCard : Claim7 := { stood := { row := storeRowUptoRow, standIns := [], harness := (true, "f38ac25db2dcaf727463dd2f7200027a90d3db7dd677272f6433bb64e3097333"), looks := true }, kinds := [], alts := [], laidByText := true, laidKinds := [.data, .data, .data, .sentinel, .sentinel], laidTests := true, laidLooks := .later }
def StoreRowUptoCardSaid : Prop := Claim7.holds Tryz.pinned (.plain (OpenSpec.upto storeRowSpec)) storeRowUptoCard
end Rows
end Go.Proofs.YtkndbmahpiebkaaGreatDoor
