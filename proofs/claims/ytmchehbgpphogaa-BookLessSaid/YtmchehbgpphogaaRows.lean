/-
  No cell of these rows narrows 'for every input' (looked for: loops, veiled, ifaces, maps, wideKeys, modest, calm, conditions, laid).
  DERIVED. THE GIVEN ROWS OF THIS SEAT. 6 by the template 'for every input the law returns true; each argument reads behind the call as it read before'; 0 by the template 'total and deterministic' (their statements: YtmchehbgpphogaaTotals.lean).
  GIVEN WITH THE SEED: the statements are not yours to turn. If you find one false, say at which input.
  Laid BY PROGRAM, IN A SANDBOX (cutbox-rows.mjs): the forced cells as the released guide's own fill.sh prints them over the translation cc074c193b7ce595… (all of the seat's roots in one cut). By AI agents, Wed Nov 11 2026. No macro, syntax, notation, axiom, sorry.
-/
import Derived.Test.YtmchehbgpphogaaChecked
import GoSem.Claim
import GoSem.ClaimJoined
import GoSem.ClaimMapViews
import Derived.JoinedTies
import Derived.KernelRfl
namespace Go.Proofs.Ytmchehbgpphogaa
/- THE CELL 'sum', in the pinned program and in every row, IS THE sha256 OF THE DUMP (.gsa) THAT YtmchehbgpphogaaProg.lean LOADS. Nothing in Lean hashes anything: it is a label: what it is worth is what the hold of that sum in a sandbox is worth. -/
noncomputable def Try.pinned : Pinned := { name := "ytmchehbgpphogaa", sum := "cc074c193b7ce59552d5a8c55ac60fc6d45d9db953270c6706d7fcf2f80d39ff", checked := Try.checked }
namespace Rows
def none {H : Type} : Left H := { results := [], args := [] }

/-- 'snafflelaw10.BookStays': WHATEVER THE INPUT: true; the input reads as it did. -/
def bookStaysSpec : ChangeSpec := { name := "bookStays", fn := fun _ => fun
  | [d1, d2] => { results := [.lit (.bool true)], args := [d1, d2] }
  | _ => none }
def bookStaysRow : OpenClaim := { program := "ytmchehbgpphogaa", sum := "cc074c193b7ce59552d5a8c55ac60fc6d45d9db953270c6706d7fcf2f80d39ff", func := "snaffle/snafflelaw10.BookStays", spec := "bookStays", unfollowed := true, recurses := true, apart := false }
def BookStaysSaid : Prop := bookStaysRow.holds Try.pinned (OpenSpec.ofChange bookStaysSpec)

/-- ITS FALSE NEIGHBOUR: 'it returns false'. Refute it at one input. -/
def bookStaysWrong : ChangeSpec := { name := "bookStays", fn := fun _ => fun
  | [d1, d2] => { results := [.lit (.bool false)], args := [d1, d2] }
  | _ => none }
def BookStaysWrongFalsely : Prop := bookStaysRow.holds Try.pinned (OpenSpec.ofChange bookStaysWrong)

/-- 'snafflelaw10.BookLess': WHATEVER THE INPUT: true; the input reads as it did. -/
def bookLessSpec : ChangeSpec := { name := "bookLess", fn := fun _ => fun
  | [d1, d2] => { results := [.lit (.bool true)], args := [d1, d2] }
  | _ => none }
def bookLessRow : OpenClaim := { program := "ytmchehbgpphogaa", sum := "cc074c193b7ce59552d5a8c55ac60fc6d45d9db953270c6706d7fcf2f80d39ff", func := "snaffle/snafflelaw10.BookLess", spec := "bookLess", unfollowed := true, recurses := true, apart := false }
def BookLessSaid : Prop := bookLessRow.holds Try.pinned (OpenSpec.ofChange bookLessSpec)

/-- ITS FALSE NEIGHBOUR: 'it returns false'. Refute it at one input. -/
def bookLessWrong : ChangeSpec := { name := "bookLess", fn := fun _ => fun
  | [d1, d2] => { results := [.lit (.bool false)], args := [d1, d2] }
  | _ => none }
def BookLessWrongFalsely : Prop := bookLessRow.holds Try.pinned (OpenSpec.ofChange bookLessWrong)

/-- 'snafflelaw10.BookKeeps': WHATEVER THE INPUT: true; the input reads as it did. -/
def bookKeepsSpec : ChangeSpec := { name := "bookKeeps", fn := fun _ => fun
  | [d1, d2] => { results := [.lit (.bool true)], args := [d1, d2] }
  | _ => none }
def bookKeepsRow : OpenClaim := { program := "ytmchehbgpphogaa", sum := "cc074c193b7ce59552d5a8c55ac60fc6d45d9db953270c6706d7fcf2f80d39ff", func := "snaffle/snafflelaw10.BookKeeps", spec := "bookKeeps", unfollowed := true, recurses := true, apart := false }
def BookKeepsSaid : Prop := bookKeepsRow.holds Try.pinned (OpenSpec.ofChange bookKeepsSpec)

/-- ITS FALSE NEIGHBOUR: 'it returns false'. Refute it at one input. -/
def bookKeepsWrong : ChangeSpec := { name := "bookKeeps", fn := fun _ => fun
  | [d1, d2] => { results := [.lit (.bool false)], args := [d1, d2] }
  | _ => none }
def BookKeepsWrongFalsely : Prop := bookKeepsRow.holds Try.pinned (OpenSpec.ofChange bookKeepsWrong)

/-- 'snafflelaw10.BookBounds': WHATEVER THE INPUT: true; the input reads as it did. -/
def bookBoundsSpec : ChangeSpec := { name := "bookBounds", fn := fun _ => fun
  | [d1, d2, d3] => { results := [.lit (.bool true)], args := [d1, d2, d3] }
  | _ => none }
def bookBoundsRow : OpenClaim := { program := "ytmchehbgpphogaa", sum := "cc074c193b7ce59552d5a8c55ac60fc6d45d9db953270c6706d7fcf2f80d39ff", func := "snaffle/snafflelaw10.BookBounds", spec := "bookBounds", unfollowed := true, recurses := true, apart := false }
def BookBoundsSaid : Prop := bookBoundsRow.holds Try.pinned (OpenSpec.ofChange bookBoundsSpec)

/-- ITS FALSE NEIGHBOUR: 'it returns false'. Refute it at one input. -/
def bookBoundsWrong : ChangeSpec := { name := "bookBounds", fn := fun _ => fun
  | [d1, d2, d3] => { results := [.lit (.bool false)], args := [d1, d2, d3] }
  | _ => none }
def BookBoundsWrongFalsely : Prop := bookBoundsRow.holds Try.pinned (OpenSpec.ofChange bookBoundsWrong)

/-- 'snafflelaw11.FoldCovers': WHATEVER THE INPUT: true; the input reads as it did. -/
def foldCoversSpec : ChangeSpec := { name := "foldCovers", fn := fun _ => fun
  | [d1, d2, d3, d4] => { results := [.lit (.bool true)], args := [d1, d2, d3, d4] }
  | _ => none }
def foldCoversRow : OpenClaim := { program := "ytmchehbgpphogaa", sum := "cc074c193b7ce59552d5a8c55ac60fc6d45d9db953270c6706d7fcf2f80d39ff", func := "snaffle/snafflelaw11.FoldCovers", spec := "foldCovers", unfollowed := true, recurses := true, apart := false }
def FoldCoversSaid : Prop := foldCoversRow.holds Try.pinned (OpenSpec.ofChange foldCoversSpec)

/-- ITS FALSE NEIGHBOUR: 'it returns false'. Refute it at one input. -/
def foldCoversWrong : ChangeSpec := { name := "foldCovers", fn := fun _ => fun
  | [d1, d2, d3, d4] => { results := [.lit (.bool false)], args := [d1, d2, d3, d4] }
  | _ => none }
def FoldCoversWrongFalsely : Prop := foldCoversRow.holds Try.pinned (OpenSpec.ofChange foldCoversWrong)

/-- 'snafflelaw11.FoldJoins': WHATEVER THE INPUT: true; the input reads as it did. -/
def foldJoinsSpec : ChangeSpec := { name := "foldJoins", fn := fun _ => fun
  | [d1, d2, d3] => { results := [.lit (.bool true)], args := [d1, d2, d3] }
  | _ => none }
def foldJoinsRow : OpenClaim := { program := "ytmchehbgpphogaa", sum := "cc074c193b7ce59552d5a8c55ac60fc6d45d9db953270c6706d7fcf2f80d39ff", func := "snaffle/snafflelaw11.FoldJoins", spec := "foldJoins", unfollowed := true, recurses := true, apart := false }
def FoldJoinsSaid : Prop := foldJoinsRow.holds Try.pinned (OpenSpec.ofChange foldJoinsSpec)

/-- ITS FALSE NEIGHBOUR: 'it returns false'. Refute it at one input. -/
def foldJoinsWrong : ChangeSpec := { name := "foldJoins", fn := fun _ => fun
  | [d1, d2, d3] => { results := [.lit (.bool false)], args := [d1, d2, d3] }
  | _ => none }
def FoldJoinsWrongFalsely : Prop := foldJoinsRow.holds Try.pinned (OpenSpec.ofChange foldJoinsWrong)

/- THE SECOND FORM. 'bulk': how many values and letters a reading holds, each counted each time it is reached (what is shared counts as often as it is met; a slice's spare places count too). A statement '..UptoSaid' is the law's where the arguments, and the package variables that the reading takes, are together of bulk at most 1048576: NARROWER than '..Said'. Prove '..Said' where nothing that the law and all that it calls make is longer than what came in: it says more and counts as full. Else prove '..UptoSaid'. A law counts once. -/
mutual
def uptoBulk {H : Type} : DataW H → Nat
  | .lit (.string bytes) => bytes.length + 1
  | .lit _ => 1
  | .nil => 1
  | .ptr d => uptoBulk d + 1
  | .slice elems spare => uptoBulkAll elems + uptoBulkAll spare + 1
  | .agg parts => uptoBulkAll parts + 1
  | .iface _ d => uptoBulk d + 1
  | .map entries => uptoBulkEntries entries + 1
  | .held _ => 1
def uptoBulkAll {H : Type} : List (DataW H) → Nat
  | [] => 0
  | d :: r => uptoBulk d + uptoBulkAll r
def uptoBulkEntries {H : Type} : List (Lit × DataW H) → Nat
  | [] => 0
  | x :: r => uptoBulkEntry x + uptoBulkEntries r
def uptoBulkEntry {H : Type} : Lit × DataW H → Nat
  | (.string bytes, d) => bytes.length + uptoBulk d + 1
  | (_, d) => uptoBulk d + 1
 end
def uptoSmall : (H : Type) → List (DataW H) → Bool := fun _ ds => decide (uptoBulkAll ds ≤ 1048576)
def OpenSpec.upto (s : _root_.Go.ChangeSpec) : _root_.Go.OpenSpec := { _root_.Go.OpenSpec.ofChange s with cond := some uptoSmall }

/-- 'snafflelaw10.BookStays', WHERE WHAT IT READS IS OF BULK AT MOST 1048576: true; the input reads as it did. -/
def bookStaysUptoRow : OpenClaim := { program := "ytmchehbgpphogaa", sum := "cc074c193b7ce59552d5a8c55ac60fc6d45d9db953270c6706d7fcf2f80d39ff", func := "snaffle/snafflelaw10.BookStays", spec := "bookStays", unfollowed := true, recurses := true, apart := false, narrowed := true }
def BookStaysUptoSaid : Prop := bookStaysUptoRow.holds Try.pinned (OpenSpec.upto bookStaysSpec)

/-- 'snafflelaw10.BookLess', WHERE WHAT IT READS IS OF BULK AT MOST 1048576: true; the input reads as it did. -/
def bookLessUptoRow : OpenClaim := { program := "ytmchehbgpphogaa", sum := "cc074c193b7ce59552d5a8c55ac60fc6d45d9db953270c6706d7fcf2f80d39ff", func := "snaffle/snafflelaw10.BookLess", spec := "bookLess", unfollowed := true, recurses := true, apart := false, narrowed := true }
def BookLessUptoSaid : Prop := bookLessUptoRow.holds Try.pinned (OpenSpec.upto bookLessSpec)

/-- 'snafflelaw10.BookKeeps', WHERE WHAT IT READS IS OF BULK AT MOST 1048576: true; the input reads as it did. -/
def bookKeepsUptoRow : OpenClaim := { program := "ytmchehbgpphogaa", sum := "cc074c193b7ce59552d5a8c55ac60fc6d45d9db953270c6706d7fcf2f80d39ff", func := "snaffle/snafflelaw10.BookKeeps", spec := "bookKeeps", unfollowed := true, recurses := true, apart := false, narrowed := true }
def BookKeepsUptoSaid : Prop := bookKeepsUptoRow.holds Try.pinned (OpenSpec.upto bookKeepsSpec)

/-- 'snafflelaw10.BookBounds', WHERE WHAT IT READS IS OF BULK AT MOST 1048576: true; the input reads as it did. -/
def bookBoundsUptoRow : OpenClaim := { program := "ytmchehbgpphogaa", sum := "cc074c193b7ce59552d5a8c55ac60fc6d45d9db953270c6706d7fcf2f80d39ff", func := "snaffle/snafflelaw10.BookBounds", spec := "bookBounds", unfollowed := true, recurses := true, apart := false, narrowed := true }
def BookBoundsUptoSaid : Prop := bookBoundsUptoRow.holds Try.pinned (OpenSpec.upto bookBoundsSpec)

/-- 'snafflelaw11.FoldCovers', WHERE WHAT IT READS IS OF BULK AT MOST 1048576: true; the input reads as it did. -/
def foldCoversUptoRow : OpenClaim := { program := "ytmchehbgpphogaa", sum := "cc074c193b7ce59552d5a8c55ac60fc6d45d9db953270c6706d7fcf2f80d39ff", func := "snaffle/snafflelaw11.FoldCovers", spec := "foldCovers", unfollowed := true, recurses := true, apart := false, narrowed := true }
def FoldCoversUptoSaid : Prop := foldCoversUptoRow.holds Try.pinned (OpenSpec.upto foldCoversSpec)

/-- 'snafflelaw11.FoldJoins', WHERE WHAT IT READS IS OF BULK AT MOST 1048576: true; the input reads as it did. -/
def foldJoinsUptoRow : OpenClaim := { program := "ytmchehbgpphogaa", sum := "cc074c193b7ce59552d5a8c55ac60fc6d45d9db953270c6706d7fcf2f80d39ff", func := "snaffle/snafflelaw11.FoldJoins", spec := "foldJoins", unfollowed := true, recurses := true, apart := false, narrowed := true }
def FoldJoinsUptoSaid : Prop := foldJoinsUptoRow.holds Try.pinned (OpenSpec.upto foldJoinsSpec)

end Rows
end Go.Proofs.Ytmchehbgpphogaa
