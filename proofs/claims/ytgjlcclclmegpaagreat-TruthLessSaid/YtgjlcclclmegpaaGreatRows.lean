/-
  No cell of these rows narrows 'for every input' (looked for: loops, veiled, ifaces, maps, wideKeys, modest, calm, conditions, laid).
  DERIVED. THE GIVEN ROWS OF THIS SEAT. 3 by the template 'for every input the law returns true; each argument reads behind the call as it read before'; 0 by the template 'total and deterministic' (their statements: YtgjlcclclmegpaaGreatTotals.lean).
  GIVEN WITH THE SEED: the statements are not yours to turn. If you find one false, say at which input.
  Laid BY PROGRAM, IN A SANDBOX (cutbox-rows.mjs): the forced cells as the released guide's own fill.sh prints them over the translation fc0c9889e7d4dbc6… (all of the seat's roots in one cut). By AI agents, Wed Nov 11 2026. No macro, syntax, notation, axiom, sorry.
-/
import Derived.Test.YtgjlcclclmegpaaGreatChecked
import GoSem.Claim
import GoSem.ClaimJoined
import GoSem.ClaimMapViews
import Derived.JoinedTies
import Derived.KernelRfl
namespace Go.Proofs.YtgjlcclclmegpaaGreat
/- THE CELL 'sum', in the pinned program and in every row, IS THE sha256 OF THE DUMP (.gsa) THAT YtgjlcclclmegpaaGreatProg.lean LOADS. Nothing in Lean hashes anything: it is a label: what it is worth is what the hold of that sum in a sandbox is worth. -/
noncomputable def Tryz.pinned : Pinned := { name := "ytgjlcclclmegpaagreat", sum := "fc0c9889e7d4dbc69067601f175e1a9a66edc746fc88bd9f7b1b167f7396cde1", checked := Tryz.checked }
namespace Rows
def none {H : Type} : Left H := { results := [], args := [] }

/-- 'snafflelaw23.TruthRight': WHATEVER THE INPUT: true; the input reads as it did. -/
def truthRightSpec : ChangeSpec := { name := "truthRight", fn := fun _ => fun
  | [d1, d2, d3, d4] => { results := [.lit (.bool true)], args := [d1, d2, d3, d4] }
  | _ => none }
def truthRightRow : OpenClaim := { program := "ytgjlcclclmegpaagreat", sum := "fc0c9889e7d4dbc69067601f175e1a9a66edc746fc88bd9f7b1b167f7396cde1", func := "snaffle/snafflelaw23.TruthRight", spec := "truthRight", inPlace := ["slices.overlaps[snaffle/api.Order]"], unfollowed := true, recurses := true, apart := false }
def TruthRightSaid : Prop := truthRightRow.holds Tryz.pinned (OpenSpec.ofChange truthRightSpec)

/-- ITS FALSE NEIGHBOUR: 'it returns false'. Refute it at one input. -/
def truthRightWrong : ChangeSpec := { name := "truthRight", fn := fun _ => fun
  | [d1, d2, d3, d4] => { results := [.lit (.bool false)], args := [d1, d2, d3, d4] }
  | _ => none }
def TruthRightWrongFalsely : Prop := truthRightRow.holds Tryz.pinned (OpenSpec.ofChange truthRightWrong)

/-- 'snafflelaw23.TruthTwice': WHATEVER THE INPUT: true; the input reads as it did. -/
def truthTwiceSpec : ChangeSpec := { name := "truthTwice", fn := fun _ => fun
  | [d1, d2, d3, d4] => { results := [.lit (.bool true)], args := [d1, d2, d3, d4] }
  | _ => none }
def truthTwiceRow : OpenClaim := { program := "ytgjlcclclmegpaagreat", sum := "fc0c9889e7d4dbc69067601f175e1a9a66edc746fc88bd9f7b1b167f7396cde1", func := "snaffle/snafflelaw23.TruthTwice", spec := "truthTwice", inPlace := ["slices.overlaps[snaffle/api.Order]"], unfollowed := true, recurses := true, apart := false }
def TruthTwiceSaid : Prop := truthTwiceRow.holds Tryz.pinned (OpenSpec.ofChange truthTwiceSpec)

/-- ITS FALSE NEIGHBOUR: 'it returns false'. Refute it at one input. -/
def truthTwiceWrong : ChangeSpec := { name := "truthTwice", fn := fun _ => fun
  | [d1, d2, d3, d4] => { results := [.lit (.bool false)], args := [d1, d2, d3, d4] }
  | _ => none }
def TruthTwiceWrongFalsely : Prop := truthTwiceRow.holds Tryz.pinned (OpenSpec.ofChange truthTwiceWrong)

/-- 'snafflelaw23.TruthLess': WHATEVER THE INPUT: true; the input reads as it did. -/
def truthLessSpec : ChangeSpec := { name := "truthLess", fn := fun _ => fun
  | [d1, d2, d3, d4, d5, d6] => { results := [.lit (.bool true)], args := [d1, d2, d3, d4, d5, d6] }
  | _ => none }
def truthLessRow : OpenClaim := { program := "ytgjlcclclmegpaagreat", sum := "fc0c9889e7d4dbc69067601f175e1a9a66edc746fc88bd9f7b1b167f7396cde1", func := "snaffle/snafflelaw23.TruthLess", spec := "truthLess", inPlace := ["slices.overlaps[snaffle/api.Order]"], unfollowed := true, recurses := true, apart := false }
def TruthLessSaid : Prop := truthLessRow.holds Tryz.pinned (OpenSpec.ofChange truthLessSpec)

/-- ITS FALSE NEIGHBOUR: 'it returns false'. Refute it at one input. -/
def truthLessWrong : ChangeSpec := { name := "truthLess", fn := fun _ => fun
  | [d1, d2, d3, d4, d5, d6] => { results := [.lit (.bool false)], args := [d1, d2, d3, d4, d5, d6] }
  | _ => none }
def TruthLessWrongFalsely : Prop := truthLessRow.holds Tryz.pinned (OpenSpec.ofChange truthLessWrong)

/- THE SECOND FORM. 'bulk': how many values and letters a reading holds, each counted each time it is reached (what is shared counts as often as it is met; a slice's spare places count too). A statement '..UptoSaid' is the law's where the arguments, and the package variables that the reading takes, are together of bulk at most 1048576: NARROWER than '..Said'. Prove '..Said' where nothing that the law and all that it calls make is longer than what came in: it says more and counts as full. Else prove '..UptoSaid'. A law counts once. -/
mutual
def uptoBulk {H : Type} : DataW H → Nat
  | .lit (.string bytes) => bytes.length + 1
  | .lit _ => 1
  | .nil => 1
  | .ptr d => uptoBulk d + 1
  | .slice elems spare => uptoBulkAll elems + uptoBulkAll spare + 1
  | .agg parts => uptoBulkAll parts + 1
  | .iface _ d => uptoBulk d + 1
  | .map entries => uptoBulkEntries entries + 1
  | .held _ => 1
def uptoBulkAll {H : Type} : List (DataW H) → Nat
  | [] => 0
  | d :: r => uptoBulk d + uptoBulkAll r
def uptoBulkEntries {H : Type} : List (Lit × DataW H) → Nat
  | [] => 0
  | x :: r => uptoBulkEntry x + uptoBulkEntries r
def uptoBulkEntry {H : Type} : Lit × DataW H → Nat
  | (.string bytes, d) => bytes.length + uptoBulk d + 1
  | (_, d) => uptoBulk d + 1
 end
def uptoSmall : (H : Type) → List (DataW H) → Bool := fun _ ds => decide (uptoBulkAll ds ≤ 1048576)
def OpenSpec.upto (s : _root_.Go.ChangeSpec) : _root_.Go.OpenSpec := { _root_.Go.OpenSpec.ofChange s with cond := some uptoSmall }

/-- 'snafflelaw23.TruthRight', WHERE WHAT IT READS IS OF BULK AT MOST 1048576: true; the input reads as it did. -/
def truthRightUptoRow : OpenClaim := { program := "ytgjlcclclmegpaagreat", sum := "fc0c9889e7d4dbc69067601f175e1a9a66edc746fc88bd9f7b1b167f7396cde1", func := "snaffle/snafflelaw23.TruthRight", spec := "truthRight", inPlace := ["slices.overlaps[snaffle/api.Order]"], unfollowed := true, recurses := true, apart := false, narrowed := true }
def TruthRightUptoSaid : Prop := truthRightUptoRow.holds Tryz.pinned (OpenSpec.upto truthRightSpec)

/-- 'snafflelaw23.TruthTwice', WHERE WHAT IT READS IS OF BULK AT MOST 1048576: true; the input reads as it did. -/
def truthTwiceUptoRow : OpenClaim := { program := "ytgjlcclclmegpaagreat", sum := "fc0c9889e7d4dbc69067601f175e1a9a66edc746fc88bd9f7b1b167f7396cde1", func := "snaffle/snafflelaw23.TruthTwice", spec := "truthTwice", inPlace := ["slices.overlaps[snaffle/api.Order]"], unfollowed := true, recurses := true, apart := false, narrowed := true }
def TruthTwiceUptoSaid : Prop := truthTwiceUptoRow.holds Tryz.pinned (OpenSpec.upto truthTwiceSpec)

/-- 'snafflelaw23.TruthLess', WHERE WHAT IT READS IS OF BULK AT MOST 1048576: true; the input reads as it did. -/
def truthLessUptoRow : OpenClaim := { program := "ytgjlcclclmegpaagreat", sum := "fc0c9889e7d4dbc69067601f175e1a9a66edc746fc88bd9f7b1b167f7396cde1", func := "snaffle/snafflelaw23.TruthLess", spec := "truthLess", inPlace := ["slices.overlaps[snaffle/api.Order]"], unfollowed := true, recurses := true, apart := false, narrowed := true }
def TruthLessUptoSaid : Prop := truthLessUptoRow.holds Tryz.pinned (OpenSpec.upto truthLessSpec)

end Rows
end Go.Proofs.YtgjlcclclmegpaaGreat
