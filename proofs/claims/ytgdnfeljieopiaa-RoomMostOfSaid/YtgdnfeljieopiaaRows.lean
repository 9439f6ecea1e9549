/-
  No cell of these rows narrows 'for every input' (looked for: loops, veiled, ifaces, maps, wideKeys, modest, calm, conditions, laid).
  DERIVED. THE GIVEN ROWS OF THIS SEAT. 3 by the template 'for every input the law returns true; each argument reads behind the call as it read before'; 0 by the template 'total and deterministic' (their statements: YtgdnfeljieopiaaTotals.lean).
  GIVEN WITH THE SEED: the statements are not yours to turn. If you find one false, say at which input.
  Laid BY PROGRAM, IN A SANDBOX (cutbox-rows.mjs): the forced cells as the released guide's own fill.sh prints them over the translation 737b1f25998c066b… (all of the seat's roots in one cut). By AI agents, Wed Nov 11 2026. No macro, syntax, notation, axiom, sorry.
-/
import Derived.Test.YtgdnfeljieopiaaChecked
import GoSem.Claim
import GoSem.ClaimJoined
import GoSem.ClaimMapViews
import Derived.JoinedTies
import Derived.KernelRfl
namespace Go.Proofs.Ytgdnfeljieopiaa
/- THE CELL 'sum', in the pinned program and in every row, IS THE sha256 OF THE DUMP (.gsa) THAT YtgdnfeljieopiaaProg.lean LOADS. Nothing in Lean hashes anything: it is a label: what it is worth is what the hold of that sum in a sandbox is worth. -/
noncomputable def Try.pinned : Pinned := { name := "ytgdnfeljieopiaa", sum := "737b1f25998c066b6ae27f44516c574d4895057213e52294feda821f2d552146", checked := Try.checked }
namespace Rows
def none {H : Type} : Left H := { results := [], args := [] }

/-- 'snafflelaw27.RoomMost': WHATEVER THE INPUT: true; the input reads as it did. -/
def roomMostSpec : ChangeSpec := { name := "roomMost", fn := fun _ => fun
  | [d1, d2, d3, d4, d5, d6] => { results := [.lit (.bool true)], args := [d1, d2, d3, d4, d5, d6] }
  | _ => none }
def roomMostRow : OpenClaim := { program := "ytgdnfeljieopiaa", sum := "737b1f25998c066b6ae27f44516c574d4895057213e52294feda821f2d552146", func := "snaffle/snafflelaw27.RoomMost", spec := "roomMost", unfollowed := true, recurses := true, apart := false }
def RoomMostSaid : Prop := roomMostRow.holds Try.pinned (OpenSpec.ofChange roomMostSpec)

/-- ITS FALSE NEIGHBOUR: 'it returns false'. Refute it at one input. -/
def roomMostWrong : ChangeSpec := { name := "roomMost", fn := fun _ => fun
  | [d1, d2, d3, d4, d5, d6] => { results := [.lit (.bool false)], args := [d1, d2, d3, d4, d5, d6] }
  | _ => none }
def RoomMostWrongFalsely : Prop := roomMostRow.holds Try.pinned (OpenSpec.ofChange roomMostWrong)

/-- 'snafflelaw27.RoomMostOf': WHATEVER THE INPUT: true; the input reads as it did. -/
def roomMostOfSpec : ChangeSpec := { name := "roomMostOf", fn := fun _ => fun
  | [d1, d2, d3, d4] => { results := [.lit (.bool true)], args := [d1, d2, d3, d4] }
  | _ => none }
def roomMostOfRow : OpenClaim := { program := "ytgdnfeljieopiaa", sum := "737b1f25998c066b6ae27f44516c574d4895057213e52294feda821f2d552146", func := "snaffle/snafflelaw27.RoomMostOf", spec := "roomMostOf", unfollowed := true, recurses := true, apart := false }
def RoomMostOfSaid : Prop := roomMostOfRow.holds Try.pinned (OpenSpec.ofChange roomMostOfSpec)

/-- ITS FALSE NEIGHBOUR: 'it returns false'. Refute it at one input. -/
def roomMostOfWrong : ChangeSpec := { name := "roomMostOf", fn := fun _ => fun
  | [d1, d2, d3, d4] => { results := [.lit (.bool false)], args := [d1, d2, d3, d4] }
  | _ => none }
def RoomMostOfWrongFalsely : Prop := roomMostOfRow.holds Try.pinned (OpenSpec.ofChange roomMostOfWrong)

/-- 'snafflelaw27.RoomEvents': WHATEVER THE INPUT: true; the input reads as it did. -/
def roomEventsSpec : ChangeSpec := { name := "roomEvents", fn := fun _ => fun
  | [d1, d2, d3, d4, d5, d6] => { results := [.lit (.bool true)], args := [d1, d2, d3, d4, d5, d6] }
  | _ => none }
def roomEventsRow : OpenClaim := { program := "ytgdnfeljieopiaa", sum := "737b1f25998c066b6ae27f44516c574d4895057213e52294feda821f2d552146", func := "snaffle/snafflelaw27.RoomEvents", spec := "roomEvents", unfollowed := true, recurses := true, apart := false }
def RoomEventsSaid : Prop := roomEventsRow.holds Try.pinned (OpenSpec.ofChange roomEventsSpec)

/-- ITS FALSE NEIGHBOUR: 'it returns false'. Refute it at one input. -/
def roomEventsWrong : ChangeSpec := { name := "roomEvents", fn := fun _ => fun
  | [d1, d2, d3, d4, d5, d6] => { results := [.lit (.bool false)], args := [d1, d2, d3, d4, d5, d6] }
  | _ => none }
def RoomEventsWrongFalsely : Prop := roomEventsRow.holds Try.pinned (OpenSpec.ofChange roomEventsWrong)

/- THE SECOND FORM. 'bulk': how many values and letters a reading holds, each counted each time it is reached (what is shared counts as often as it is met; a slice's spare places count too). A statement '..UptoSaid' is the law's where the arguments, and the package variables that the reading takes, are together of bulk at most 1048576: NARROWER than '..Said'. Prove '..Said' where nothing that the law and all that it calls make is longer than what came in: it says more and counts as full. Else prove '..UptoSaid'. A law counts once. -/
mutual
def uptoBulk {H : Type} : DataW H → Nat
  | .lit (.string bytes) => bytes.length + 1
  | .lit _ => 1
  | .nil => 1
  | .ptr d => uptoBulk d + 1
  | .slice elems spare => uptoBulkAll elems + uptoBulkAll spare + 1
  | .agg parts => uptoBulkAll parts + 1
  | .iface _ d => uptoBulk d + 1
  | .map entries => uptoBulkEntries entries + 1
  | .held _ => 1
def uptoBulkAll {H : Type} : List (DataW H) → Nat
  | [] => 0
  | d :: r => uptoBulk d + uptoBulkAll r
def uptoBulkEntries {H : Type} : List (Lit × DataW H) → Nat
  | [] => 0
  | x :: r => uptoBulkEntry x + uptoBulkEntries r
def uptoBulkEntry {H : Type} : Lit × DataW H → Nat
  | (.string bytes, d) => bytes.length + uptoBulk d + 1
  | (_, d) => uptoBulk d + 1
 end
def uptoSmall : (H : Type) → List (DataW H) → Bool := fun _ ds => decide (uptoBulkAll ds ≤ 1048576)
def OpenSpec.upto (s : _root_.Go.ChangeSpec) : _root_.Go.OpenSpec := { _root_.Go.OpenSpec.ofChange s with cond := some uptoSmall }

/-- 'snafflelaw27.RoomMost', WHERE WHAT IT READS IS OF BULK AT MOST 1048576: true; the input reads as it did. -/
def roomMostUptoRow : OpenClaim := { program := "ytgdnfeljieopiaa", sum := "737b1f25998c066b6ae27f44516c574d4895057213e52294feda821f2d552146", func := "snaffle/snafflelaw27.RoomMost", spec := "roomMost", unfollowed := true, recurses := true, apart := false, narrowed := true }
def RoomMostUptoSaid : Prop := roomMostUptoRow.holds Try.pinned (OpenSpec.upto roomMostSpec)

/-- 'snafflelaw27.RoomMostOf', WHERE WHAT IT READS IS OF BULK AT MOST 1048576: true; the input reads as it did. -/
def roomMostOfUptoRow : OpenClaim := { program := "ytgdnfeljieopiaa", sum := "737b1f25998c066b6ae27f44516c574d4895057213e52294feda821f2d552146", func := "snaffle/snafflelaw27.RoomMostOf", spec := "roomMostOf", unfollowed := true, recurses := true, apart := false, narrowed := true }
def RoomMostOfUptoSaid : Prop := roomMostOfUptoRow.holds Try.pinned (OpenSpec.upto roomMostOfSpec)

/-- 'snafflelaw27.RoomEvents', WHERE WHAT IT READS IS OF BULK AT MOST 1048576: true; the input reads as it did. -/
def roomEventsUptoRow : OpenClaim := { program := "ytgdnfeljieopiaa", sum := "737b1f25998c066b6ae27f44516c574d4895057213e52294feda821f2d552146", func := "snaffle/snafflelaw27.RoomEvents", spec := "roomEvents", unfollowed := true, recurses := true, apart := false, narrowed := true }
def RoomEventsUptoSaid : Prop := roomEventsUptoRow.holds Try.pinned (OpenSpec.upto roomEventsSpec)

end Rows
end Go.Proofs.Ytgdnfeljieopiaa
