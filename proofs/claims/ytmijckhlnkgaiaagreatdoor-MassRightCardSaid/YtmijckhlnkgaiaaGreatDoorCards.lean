/-
  DERIVED. GIVEN WITH THE SEED: THE CARDS: each row of YtmijckhlnkgaiaaGreatDoorRows.lean that lists a variable, with what it lists TIED to the program's text (the seventh form; the later family's looks); each row that meets fmt, with fmt's text TOLD by the authors' own Lean function (tested against real Go, not proved from fmt's source: count such statements apart). THE CARD IS WHAT COUNTS. Prove the row's statement (the work); the ties are given (YtmijckhlnkgaiaaGreatDoorTie.lean); close each card by the builder's one call (the guide's Derived/Test/ToyasCard.lean, 'card_holds'). Laid BY PROGRAM, IN A SANDBOX (cutbox-door.mjs). By AI agents, Wed Nov 11 2026. No macro, syntax, notation, axiom, sorry.
-/
import Derived.Test.YtmijckhlnkgaiaaGreatDoorRows
import GoSem.ClaimSeven
namespace Go.Proofs.YtmijckhlnkgaiaaGreatDoor
namespace Rows

/-- THE TIED CARD OF 'snafflelaw29.MassRight'. -/
def massRightCard : Claim7 := { stood := { row := massRightRow, standIns := [], harness := (true, "3508475ca74f299fb80a75d86b7f91897a1247ad59637f155b45d1d025232ed7"), looks := false }, kinds := [], alts := [], laidByText := true, laidKinds := [.data, .data, .data], laidTests := true, laidLooks := .later }
def MassRightCardSaid : Prop := Claim7.holds Tryz.pinned (.plain (OpenSpec.ofChange massRightSpec)) massRightCard

/-- THE TIED CARD OF 'snafflelaw29.MassTells'. -/
def massTellsCard : Claim7 := { stood := { row := massTellsRow, standIns := [], harness := (true, "3508475ca74f299fb80a75d86b7f91897a1247ad59637f155b45d1d025232ed7"), looks := false }, kinds := [], alts := [], laidByText := true, laidKinds := [.data, .data, .data], laidTests := true, laidLooks := .later }
def MassTellsCardSaid : Prop := Claim7.holds Tryz.pinned (.plain (OpenSpec.ofChange massTellsSpec)) massTellsCard

/-- THE TIED CARD OF 'snafflelaw29.MassAsked'. -/
def massAskedCard : Claim7 := { stood := { row := massAskedRow, standIns := [], harness := (true, "3508475ca74f299fb80a75d86b7f91897a1247ad59637f155b45d1d025232ed7"), looks := false }, kinds := [], alts := [], laidByText := true, laidKinds := [.data, .data, .data], laidTests := true, laidLooks := .later }
def MassAskedCardSaid : Prop := Claim7.holds Tryz.pinned (.plain (OpenSpec.ofChange massAskedSpec)) massAskedCard

/-- THE TIED CARD OF 'snafflelaw29.MassHalts'. -/
def massHaltsCard : Claim7 := { stood := { row := massHaltsRow, standIns := [], harness := (true, "3508475ca74f299fb80a75d86b7f91897a1247ad59637f155b45d1d025232ed7"), looks := false }, kinds := [], alts := [], laidByText := true, laidKinds := [.data, .data, .data], laidTests := true, laidLooks := .later }
def MassHaltsCardSaid : Prop := Claim7.holds Tryz.pinned (.plain (OpenSpec.ofChange massHaltsSpec)) massHaltsCard

/-- THE SECOND FORM's CARD OF 'snafflelaw29.MassRight'. -/
def massRightUptoCard : Claim7 := { stood := { row := massRightUptoRow, standIns := [], harness := (true, "3508475ca74f299fb80a75d86b7f91897a1247ad59637f155b45d1d025232ed7"), looks := false }, kinds := [], alts := [], laidByText := true, laidKinds := [.data, .data, .data], laidTests := true, laidLooks := .later }
def MassRightUptoCardSaid : Prop := Claim7.holds Tryz.pinned (.plain (OpenSpec.upto massRightSpec)) massRightUptoCard

/-- THE SECOND FORM's CARD OF 'snafflelaw29.MassTells'. -/
def massTellsUptoCard : Claim7 := { stood := { row := massTellsUptoRow, standIns := [], harness := (true, "3508475ca74f299fb80a75d86b7f91897a1247ad59637f155b45d1d025232ed7"), looks := false }, kinds := [], alts := [], laidByText := true, laidKinds := [.data, .data, .data], laidTests := true, laidLooks := .later }
def MassTellsUptoCardSaid : Prop := Claim7.holds Tryz.pinned (.plain (OpenSpec.upto massTellsSpec)) massTellsUptoCard

/-- THE SECOND FORM's CARD OF 'snafflelaw29.MassAsked'. -/
def massAskedUptoCard : Claim7 := { stood := { row := massAskedUptoRow, standIns := [], harness := (true, "3508475ca74f299fb80a75d86b7f91897a1247ad59637f155b45d1d025232ed7"), looks := false }, kinds := [], alts := [], laidByText := true, laidKinds := [.data, .data, .data], laidTests := true, laidLooks := .later }
def MassAskedUptoCardSaid : Prop := Claim7.holds Tryz.pinned (.plain (OpenSpec.upto massAskedSpec)) massAskedUptoCard

/-- THE SECOND FORM's CARD OF 'snafflelaw29.MassHalts'. -/
def massHaltsUptoCard : Claim7 := { stood := { row := massHaltsUptoRow, standIns := [], harness := (true, "3508475ca74f299fb80a75d86b7f91897a1247ad59637f155b45d1d025232ed7"), looks := false }, kinds := [], alts := [], laidByText := true, laidKinds := [.data, .data, .data], laidTests := true, laidLooks := .later }
def MassHaltsUptoCardSaid : Prop := Claim7.holds Tryz.pinned (.plain (OpenSpec.upto massHaltsSpec)) massHaltsUptoCard
end Rows
end Go.Proofs.YtmijckhlnkgaiaaGreatDoor
