/-
  No cell of these rows narrows 'for every input' (looked for: loops, veiled, ifaces, maps, wideKeys, modest, calm, conditions, laid).
  DERIVED. THE GIVEN ROWS OF THIS SEAT. 4 by the template 'for every input the law returns true; each argument reads behind the call as it read before'; 0 by the template 'total and deterministic' (their statements: YtgkmpcjcpochoaaTotals.lean).
  GIVEN WITH THE SEED: the statements are not yours to turn. If you find one false, say at which input.
  Laid BY PROGRAM, IN A SANDBOX (cutbox-rows.mjs): the forced cells as the released guide's own fill.sh prints them over the translation 94d0d6ecde2cf7a4… (all of the seat's roots in one cut). By AI agents, Wed Nov 11 2026. No macro, syntax, notation, axiom, sorry.
-/
import Derived.Test.YtgkmpcjcpochoaaChecked
import GoSem.Claim
import GoSem.ClaimJoined
import GoSem.ClaimMapViews
import Derived.JoinedTies
import Derived.KernelRfl
namespace Go.Proofs.Ytgkmpcjcpochoaa
/- THE CELL 'sum', in the pinned program and in every row, IS THE sha256 OF THE DUMP (.gsa) THAT YtgkmpcjcpochoaaProg.lean LOADS. Nothing in Lean hashes anything: it is a label: what it is worth is what the hold of that sum in a sandbox is worth. -/
noncomputable def Try.pinned : Pinned := { name := "ytgkmpcjcpochoaa", sum := "94d0d6ecde2cf7a4bcc7039e25f89e0c45c0baae8820212a28f1e83e7092dee7", checked := Try.checked }
namespace Rows
def none {H : Type} : Left H := { results := [], args := [] }

/-- 'snafflelaw13.RowBack': WHATEVER THE INPUT: true; the input reads as it did. -/
def rowBackSpec : ChangeSpec := { name := "rowBack", fn := fun _ => fun
  | [d1, d2, d3] => { results := [.lit (.bool true)], args := [d1, d2, d3] }
  | _ => none }
def rowBackRow : OpenClaim := { program := "ytgkmpcjcpochoaa", sum := "94d0d6ecde2cf7a4bcc7039e25f89e0c45c0baae8820212a28f1e83e7092dee7", func := "snaffle/snafflelaw13.RowBack", spec := "rowBack", unfollowed := true, recurses := true, apart := false }
def RowBackSaid : Prop := rowBackRow.holds Try.pinned (OpenSpec.ofChange rowBackSpec)

/-- ITS FALSE NEIGHBOUR: 'it returns false'. Refute it at one input. -/
def rowBackWrong : ChangeSpec := { name := "rowBack", fn := fun _ => fun
  | [d1, d2, d3] => { results := [.lit (.bool false)], args := [d1, d2, d3] }
  | _ => none }
def RowBackWrongFalsely : Prop := rowBackRow.holds Try.pinned (OpenSpec.ofChange rowBackWrong)

/-- 'snafflelaw13.RowTurned': WHATEVER THE INPUT: true; the input reads as it did. -/
def rowTurnedSpec : ChangeSpec := { name := "rowTurned", fn := fun _ => fun
  | [d1, d2, d3, d4, d5] => { results := [.lit (.bool true)], args := [d1, d2, d3, d4, d5] }
  | _ => none }
def rowTurnedRow : OpenClaim := { program := "ytgkmpcjcpochoaa", sum := "94d0d6ecde2cf7a4bcc7039e25f89e0c45c0baae8820212a28f1e83e7092dee7", func := "snaffle/snafflelaw13.RowTurned", spec := "rowTurned", unfollowed := true, recurses := true, apart := false }
def RowTurnedSaid : Prop := rowTurnedRow.holds Try.pinned (OpenSpec.ofChange rowTurnedSpec)

/-- ITS FALSE NEIGHBOUR: 'it returns false'. Refute it at one input. -/
def rowTurnedWrong : ChangeSpec := { name := "rowTurned", fn := fun _ => fun
  | [d1, d2, d3, d4, d5] => { results := [.lit (.bool false)], args := [d1, d2, d3, d4, d5] }
  | _ => none }
def RowTurnedWrongFalsely : Prop := rowTurnedRow.holds Try.pinned (OpenSpec.ofChange rowTurnedWrong)

/-- 'snafflelaw13.RowDone': WHATEVER THE INPUT: true; the input reads as it did. -/
def rowDoneSpec : ChangeSpec := { name := "rowDone", fn := fun _ => fun
  | [d1, d2] => { results := [.lit (.bool true)], args := [d1, d2] }
  | _ => none }
def rowDoneRow : OpenClaim := { program := "ytgkmpcjcpochoaa", sum := "94d0d6ecde2cf7a4bcc7039e25f89e0c45c0baae8820212a28f1e83e7092dee7", func := "snaffle/snafflelaw13.RowDone", spec := "rowDone", unfollowed := true, recurses := true, apart := false }
def RowDoneSaid : Prop := rowDoneRow.holds Try.pinned (OpenSpec.ofChange rowDoneSpec)

/-- ITS FALSE NEIGHBOUR: 'it returns false'. Refute it at one input. -/
def rowDoneWrong : ChangeSpec := { name := "rowDone", fn := fun _ => fun
  | [d1, d2] => { results := [.lit (.bool false)], args := [d1, d2] }
  | _ => none }
def RowDoneWrongFalsely : Prop := rowDoneRow.holds Try.pinned (OpenSpec.ofChange rowDoneWrong)

/-- 'snafflelaw13.RowSizes': WHATEVER THE INPUT: true; the input reads as it did. -/
def rowSizesSpec : ChangeSpec := { name := "rowSizes", fn := fun _ => fun
  | [d] => { results := [.lit (.bool true)], args := [d] }
  | _ => none }
def rowSizesRow : OpenClaim := { program := "ytgkmpcjcpochoaa", sum := "94d0d6ecde2cf7a4bcc7039e25f89e0c45c0baae8820212a28f1e83e7092dee7", func := "snaffle/snafflelaw13.RowSizes", spec := "rowSizes", unfollowed := true, recurses := true, apart := false }
def RowSizesSaid : Prop := rowSizesRow.holds Try.pinned (OpenSpec.ofChange rowSizesSpec)

/-- ITS FALSE NEIGHBOUR: 'it returns false'. Refute it at one input. -/
def rowSizesWrong : ChangeSpec := { name := "rowSizes", fn := fun _ => fun
  | [d] => { results := [.lit (.bool false)], args := [d] }
  | _ => none }
def RowSizesWrongFalsely : Prop := rowSizesRow.holds Try.pinned (OpenSpec.ofChange rowSizesWrong)

/- THE SECOND FORM. 'bulk': how many values and letters a reading holds, each counted each time it is reached (what is shared counts as often as it is met; a slice's spare places count too). A statement '..UptoSaid' is the law's where the arguments, and the package variables that the reading takes, are together of bulk at most 1048576: NARROWER than '..Said'. Prove '..Said' where nothing that the law and all that it calls make is longer than what came in: it says more and counts as full. Else prove '..UptoSaid'. A law counts once. -/
mutual
def uptoBulk {H : Type} : DataW H → Nat
  | .lit (.string bytes) => bytes.length + 1
  | .lit _ => 1
  | .nil => 1
  | .ptr d => uptoBulk d + 1
  | .slice elems spare => uptoBulkAll elems + uptoBulkAll spare + 1
  | .agg parts => uptoBulkAll parts + 1
  | .iface _ d => uptoBulk d + 1
  | .map entries => uptoBulkEntries entries + 1
  | .held _ => 1
def uptoBulkAll {H : Type} : List (DataW H) → Nat
  | [] => 0
  | d :: r => uptoBulk d + uptoBulkAll r
def uptoBulkEntries {H : Type} : List (Lit × DataW H) → Nat
  | [] => 0
  | x :: r => uptoBulkEntry x + uptoBulkEntries r
def uptoBulkEntry {H : Type} : Lit × DataW H → Nat
  | (.string bytes, d) => bytes.length + uptoBulk d + 1
  | (_, d) => uptoBulk d + 1
 end
def uptoSmall : (H : Type) → List (DataW H) → Bool := fun _ ds => decide (uptoBulkAll ds ≤ 1048576)
def OpenSpec.upto (s : _root_.Go.ChangeSpec) : _root_.Go.OpenSpec := { _root_.Go.OpenSpec.ofChange s with cond := some uptoSmall }

/-- 'snafflelaw13.RowBack', WHERE WHAT IT READS IS OF BULK AT MOST 1048576: true; the input reads as it did. -/
def rowBackUptoRow : OpenClaim := { program := "ytgkmpcjcpochoaa", sum := "94d0d6ecde2cf7a4bcc7039e25f89e0c45c0baae8820212a28f1e83e7092dee7", func := "snaffle/snafflelaw13.RowBack", spec := "rowBack", unfollowed := true, recurses := true, apart := false, narrowed := true }
def RowBackUptoSaid : Prop := rowBackUptoRow.holds Try.pinned (OpenSpec.upto rowBackSpec)

/-- 'snafflelaw13.RowTurned', WHERE WHAT IT READS IS OF BULK AT MOST 1048576: true; the input reads as it did. -/
def rowTurnedUptoRow : OpenClaim := { program := "ytgkmpcjcpochoaa", sum := "94d0d6ecde2cf7a4bcc7039e25f89e0c45c0baae8820212a28f1e83e7092dee7", func := "snaffle/snafflelaw13.RowTurned", spec := "rowTurned", unfollowed := true, recurses := true, apart := false, narrowed := true }
def RowTurnedUptoSaid : Prop := rowTurnedUptoRow.holds Try.pinned (OpenSpec.upto rowTurnedSpec)

/-- 'snafflelaw13.RowDone', WHERE WHAT IT READS IS OF BULK AT MOST 1048576: true; the input reads as it did. -/
def rowDoneUptoRow : OpenClaim := { program := "ytgkmpcjcpochoaa", sum := "94d0d6ecde2cf7a4bcc7039e25f89e0c45c0baae8820212a28f1e83e7092dee7", func := "snaffle/snafflelaw13.RowDone", spec := "rowDone", unfollowed := true, recurses := true, apart := false, narrowed := true }
def RowDoneUptoSaid : Prop := rowDoneUptoRow.holds Try.pinned (OpenSpec.upto rowDoneSpec)

/-- 'snafflelaw13.RowSizes', WHERE WHAT IT READS IS OF BULK AT MOST 1048576: true; the input reads as it did. -/
def rowSizesUptoRow : OpenClaim := { program := "ytgkmpcjcpochoaa", sum := "94d0d6ecde2cf7a4bcc7039e25f89e0c45c0baae8820212a28f1e83e7092dee7", func := "snaffle/snafflelaw13.RowSizes", spec := "rowSizes", unfollowed := true, recurses := true, apart := false, narrowed := true }
def RowSizesUptoSaid : Prop := rowSizesUptoRow.holds Try.pinned (OpenSpec.upto rowSizesSpec)

end Rows
end Go.Proofs.Ytgkmpcjcpochoaa
