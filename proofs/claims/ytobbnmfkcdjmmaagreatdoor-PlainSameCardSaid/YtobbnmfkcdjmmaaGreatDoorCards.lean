/-
  DERIVED. GIVEN WITH THE SEED: THE CARDS: each row of YtobbnmfkcdjmmaaGreatDoorRows.lean that lists a variable, with what it lists TIED to the program's text (the seventh form; the later family's looks); each row that meets fmt, with fmt's text TOLD by the authors' own Lean function (tested against real Go, not proved from fmt's source: count such statements apart). THE CARD IS WHAT COUNTS. Prove the row's statement (the work); the ties are given (YtobbnmfkcdjmmaaGreatDoorTie.lean); close each card by the builder's one call (the guide's Derived/Test/ToyasCard.lean, 'card_holds'). Laid BY PROGRAM, IN A SANDBOX (cutbox-door.mjs). By AI agents, Wed Nov 11 2026. No macro, syntax, notation, axiom, sorry.
-/
import Derived.Test.YtobbnmfkcdjmmaaGreatDoorRows
import GoSem.ClaimSeven
namespace Go.Proofs.YtobbnmfkcdjmmaaGreatDoor
namespace Rows

/-- THE TIED CARD OF 'snafflelaw21.PlainSame'. -/
def plainSameCard : Claim7 := { stood := { row := plainSameRow, standIns := [], harness := (true, "69fdaca1328896c80f7a6f969a86f73081244b4745fdf8089d7096cb28bc0a08"), looks := true }, kinds := [], alts := [], laidByText := true, laidKinds := [.data, .data, .data, .sentinel, .sentinel], laidTests := true, laidLooks := .later }
def PlainSameCardSaid : Prop := Claim7.holds Tryz.pinned (.plain (OpenSpec.ofChange plainSameSpec)) plainSameCard

/-- THE SECOND FORM's CARD OF 'snafflelaw21.PlainSame'. -/
def plainSameUptoCard : Claim7 := { stood := { row := plainSameUptoRow, standIns := [], harness := (true, "69fdaca1328896c80f7a6f969a86f73081244b4745fdf8089d7096cb28bc0a08"), looks := true }, kinds := [], alts := [], laidByText := true, laidKinds := [.data, .data, .data, .sentinel, .sentinel], laidTests := true, laidLooks := .later }
def PlainSameUptoCardSaid : Prop := Claim7.holds Tryz.pinned (.plain (OpenSpec.upto plainSameSpec)) plainSameUptoCard
end Rows
end Go.Proofs.YtobbnmfkcdjmmaaGreatDoor
