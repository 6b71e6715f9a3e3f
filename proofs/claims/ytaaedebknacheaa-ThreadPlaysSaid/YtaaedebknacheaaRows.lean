/-
  No cell of these rows narrows 'for every input' (looked for: loops, veiled, ifaces, maps, wideKeys, modest, calm, conditions, laid).
  DERIVED. THE GIVEN ROWS OF THIS SEAT. 11 by the template 'for every input the law returns true; each argument reads behind the call as it read before'; 0 by the template 'total and deterministic' (their statements: YtaaedebknacheaaTotals.lean).
  GIVEN WITH THE SEED: the statements are not yours to turn. If you find one false, say at which input.
  Laid BY PROGRAM, IN A SANDBOX (cutbox-rows.mjs): the forced cells as the released guide's own fill.sh prints them over the translation 9878d526e56bf1f3… (all of the seat's roots in one cut). By AI agents, Wed Nov 11 2026. No macro, syntax, notation, axiom, sorry.
-/
import Derived.Test.YtaaedebknacheaaChecked
import GoSem.Claim
import GoSem.ClaimJoined
import GoSem.ClaimMapViews
import Derived.JoinedTies
import Derived.KernelRfl
namespace Go.Proofs.Ytaaedebknacheaa
/- THE CELL 'sum', in the pinned program and in every row, IS THE sha256 OF THE DUMP (.gsa) THAT YtaaedebknacheaaProg.lean LOADS. Nothing in Lean hashes anything: it is a label: what it is worth is what the hold of that sum in a sandbox is worth. -/
noncomputable def Try.pinned : Pinned := { name := "ytaaedebknacheaa", sum := "9878d526e56bf1f3af3b3775250ade903a5adf5213f9c6a055b84f4ba3db426b", checked := Try.checked }
namespace Rows
def none {H : Type} : Left H := { results := [], args := [] }

/-- 'cruciblelaw18.ThreadTurns': WHATEVER THE INPUT: true; the input reads as it did. -/
def threadTurnsSpec : ChangeSpec := { name := "threadTurns", fn := fun _ => fun
  | [d1, d2] => { results := [.lit (.bool true)], args := [d1, d2] }
  | _ => none }
def threadTurnsRow : OpenClaim := { program := "ytaaedebknacheaa", sum := "9878d526e56bf1f3af3b3775250ade903a5adf5213f9c6a055b84f4ba3db426b", func := "crucible/cruciblelaw18.ThreadTurns", spec := "threadTurns", apart := false }
def ThreadTurnsSaid : Prop := threadTurnsRow.holds Try.pinned (OpenSpec.ofChange threadTurnsSpec)

/-- ITS FALSE NEIGHBOUR: 'it returns false'. Refute it at one input. -/
def threadTurnsWrong : ChangeSpec := { name := "threadTurns", fn := fun _ => fun
  | [d1, d2] => { results := [.lit (.bool false)], args := [d1, d2] }
  | _ => none }
def ThreadTurnsWrongFalsely : Prop := threadTurnsRow.holds Try.pinned (OpenSpec.ofChange threadTurnsWrong)

/-- 'cruciblelaw4.CodeOps': WHATEVER THE INPUT: true; the input reads as it did. -/
def codeOpsSpec : ChangeSpec := { name := "codeOps", fn := fun _ => fun
  | [d1, d2] => { results := [.lit (.bool true)], args := [d1, d2] }
  | _ => none }
def codeOpsRow : OpenClaim := { program := "ytaaedebknacheaa", sum := "9878d526e56bf1f3af3b3775250ade903a5adf5213f9c6a055b84f4ba3db426b", func := "crucible/cruciblelaw4.CodeOps", spec := "codeOps", unfollowed := true, recurses := true, apart := false }
def CodeOpsSaid : Prop := codeOpsRow.holds Try.pinned (OpenSpec.ofChange codeOpsSpec)

/-- ITS FALSE NEIGHBOUR: 'it returns false'. Refute it at one input. -/
def codeOpsWrong : ChangeSpec := { name := "codeOps", fn := fun _ => fun
  | [d1, d2] => { results := [.lit (.bool false)], args := [d1, d2] }
  | _ => none }
def CodeOpsWrongFalsely : Prop := codeOpsRow.holds Try.pinned (OpenSpec.ofChange codeOpsWrong)

/-- 'cruciblelaw4.CodeMoves': WHATEVER THE INPUT: true; the input reads as it did. -/
def codeMovesSpec : ChangeSpec := { name := "codeMoves", fn := fun _ => fun
  | [d1, d2] => { results := [.lit (.bool true)], args := [d1, d2] }
  | _ => none }
def codeMovesRow : OpenClaim := { program := "ytaaedebknacheaa", sum := "9878d526e56bf1f3af3b3775250ade903a5adf5213f9c6a055b84f4ba3db426b", func := "crucible/cruciblelaw4.CodeMoves", spec := "codeMoves", unfollowed := true, recurses := true, apart := false }
def CodeMovesSaid : Prop := codeMovesRow.holds Try.pinned (OpenSpec.ofChange codeMovesSpec)

/-- ITS FALSE NEIGHBOUR: 'it returns false'. Refute it at one input. -/
def codeMovesWrong : ChangeSpec := { name := "codeMoves", fn := fun _ => fun
  | [d1, d2] => { results := [.lit (.bool false)], args := [d1, d2] }
  | _ => none }
def CodeMovesWrongFalsely : Prop := codeMovesRow.holds Try.pinned (OpenSpec.ofChange codeMovesWrong)

/-- 'cruciblelaw4.CodeJoins': WHATEVER THE INPUT: true; the input reads as it did. -/
def codeJoinsSpec : ChangeSpec := { name := "codeJoins", fn := fun _ => fun
  | [d1, d2] => { results := [.lit (.bool true)], args := [d1, d2] }
  | _ => none }
def codeJoinsRow : OpenClaim := { program := "ytaaedebknacheaa", sum := "9878d526e56bf1f3af3b3775250ade903a5adf5213f9c6a055b84f4ba3db426b", func := "crucible/cruciblelaw4.CodeJoins", spec := "codeJoins", unfollowed := true, recurses := true, apart := false }
def CodeJoinsSaid : Prop := codeJoinsRow.holds Try.pinned (OpenSpec.ofChange codeJoinsSpec)

/-- ITS FALSE NEIGHBOUR: 'it returns false'. Refute it at one input. -/
def codeJoinsWrong : ChangeSpec := { name := "codeJoins", fn := fun _ => fun
  | [d1, d2] => { results := [.lit (.bool false)], args := [d1, d2] }
  | _ => none }
def CodeJoinsWrongFalsely : Prop := codeJoinsRow.holds Try.pinned (OpenSpec.ofChange codeJoinsWrong)

/-- 'cruciblelaw4.CodeTurns': WHATEVER THE INPUT: true; the input reads as it did. -/
def codeTurnsSpec : ChangeSpec := { name := "codeTurns", fn := fun _ => fun
  | [d1, d2, d3] => { results := [.lit (.bool true)], args := [d1, d2, d3] }
  | _ => none }
def codeTurnsRow : OpenClaim := { program := "ytaaedebknacheaa", sum := "9878d526e56bf1f3af3b3775250ade903a5adf5213f9c6a055b84f4ba3db426b", func := "crucible/cruciblelaw4.CodeTurns", spec := "codeTurns", unfollowed := true, recurses := true, apart := false }
def CodeTurnsSaid : Prop := codeTurnsRow.holds Try.pinned (OpenSpec.ofChange codeTurnsSpec)

/-- ITS FALSE NEIGHBOUR: 'it returns false'. Refute it at one input. -/
def codeTurnsWrong : ChangeSpec := { name := "codeTurns", fn := fun _ => fun
  | [d1, d2, d3] => { results := [.lit (.bool false)], args := [d1, d2, d3] }
  | _ => none }
def CodeTurnsWrongFalsely : Prop := codeTurnsRow.holds Try.pinned (OpenSpec.ofChange codeTurnsWrong)

/-- 'cruciblelaw4.CodeReads': WHATEVER THE INPUT: true; the input reads as it did. -/
def codeReadsSpec : ChangeSpec := { name := "codeReads", fn := fun _ => fun
  | [d1, d2] => { results := [.lit (.bool true)], args := [d1, d2] }
  | _ => none }
def codeReadsRow : OpenClaim := { program := "ytaaedebknacheaa", sum := "9878d526e56bf1f3af3b3775250ade903a5adf5213f9c6a055b84f4ba3db426b", func := "crucible/cruciblelaw4.CodeReads", spec := "codeReads", unfollowed := true, recurses := true, apart := false }
def CodeReadsSaid : Prop := codeReadsRow.holds Try.pinned (OpenSpec.ofChange codeReadsSpec)

/-- ITS FALSE NEIGHBOUR: 'it returns false'. Refute it at one input. -/
def codeReadsWrong : ChangeSpec := { name := "codeReads", fn := fun _ => fun
  | [d1, d2] => { results := [.lit (.bool false)], args := [d1, d2] }
  | _ => none }
def CodeReadsWrongFalsely : Prop := codeReadsRow.holds Try.pinned (OpenSpec.ofChange codeReadsWrong)

/-- 'cruciblelaw4.CodeCovers': WHATEVER THE INPUT: true; the input reads as it did. -/
def codeCoversSpec : ChangeSpec := { name := "codeCovers", fn := fun _ => fun
  | [d] => { results := [.lit (.bool true)], args := [d] }
  | _ => none }
def codeCoversRow : OpenClaim := { program := "ytaaedebknacheaa", sum := "9878d526e56bf1f3af3b3775250ade903a5adf5213f9c6a055b84f4ba3db426b", func := "crucible/cruciblelaw4.CodeCovers", spec := "codeCovers", unfollowed := true, recurses := true, apart := false }
def CodeCoversSaid : Prop := codeCoversRow.holds Try.pinned (OpenSpec.ofChange codeCoversSpec)

/-- ITS FALSE NEIGHBOUR: 'it returns false'. Refute it at one input. -/
def codeCoversWrong : ChangeSpec := { name := "codeCovers", fn := fun _ => fun
  | [d] => { results := [.lit (.bool false)], args := [d] }
  | _ => none }
def CodeCoversWrongFalsely : Prop := codeCoversRow.holds Try.pinned (OpenSpec.ofChange codeCoversWrong)

/-- 'cruciblelaw18.ThreadCopies': WHATEVER THE INPUT: true; the input reads as it did. -/
def threadCopiesSpec : ChangeSpec := { name := "threadCopies", fn := fun _ => fun
  | [d1, d2] => { results := [.lit (.bool true)], args := [d1, d2] }
  | _ => none }
def threadCopiesRow : OpenClaim := { program := "ytaaedebknacheaa", sum := "9878d526e56bf1f3af3b3775250ade903a5adf5213f9c6a055b84f4ba3db426b", func := "crucible/cruciblelaw18.ThreadCopies", spec := "threadCopies", apart := false }
def ThreadCopiesSaid : Prop := threadCopiesRow.holds Try.pinned (OpenSpec.ofChange threadCopiesSpec)

/-- ITS FALSE NEIGHBOUR: 'it returns false'. Refute it at one input. -/
def threadCopiesWrong : ChangeSpec := { name := "threadCopies", fn := fun _ => fun
  | [d1, d2] => { results := [.lit (.bool false)], args := [d1, d2] }
  | _ => none }
def ThreadCopiesWrongFalsely : Prop := threadCopiesRow.holds Try.pinned (OpenSpec.ofChange threadCopiesWrong)

/-- 'cruciblelaw4.CodeWrites': WHATEVER THE INPUT: true; the input reads as it did. -/
def codeWritesSpec : ChangeSpec := { name := "codeWrites", fn := fun _ => fun
  | [d1, d2] => { results := [.lit (.bool true)], args := [d1, d2] }
  | _ => none }
def codeWritesRow : OpenClaim := { program := "ytaaedebknacheaa", sum := "9878d526e56bf1f3af3b3775250ade903a5adf5213f9c6a055b84f4ba3db426b", func := "crucible/cruciblelaw4.CodeWrites", spec := "codeWrites", unfollowed := true, recurses := true, apart := false }
def CodeWritesSaid : Prop := codeWritesRow.holds Try.pinned (OpenSpec.ofChange codeWritesSpec)

/-- ITS FALSE NEIGHBOUR: 'it returns false'. Refute it at one input. -/
def codeWritesWrong : ChangeSpec := { name := "codeWrites", fn := fun _ => fun
  | [d1, d2] => { results := [.lit (.bool false)], args := [d1, d2] }
  | _ => none }
def CodeWritesWrongFalsely : Prop := codeWritesRow.holds Try.pinned (OpenSpec.ofChange codeWritesWrong)

/-- 'cruciblelaw18.ThreadJoins': WHATEVER THE INPUT: true; the input reads as it did. -/
def threadJoinsSpec : ChangeSpec := { name := "threadJoins", fn := fun _ => fun
  | [d1, d2] => { results := [.lit (.bool true)], args := [d1, d2] }
  | _ => none }
def threadJoinsRow : OpenClaim := { program := "ytaaedebknacheaa", sum := "9878d526e56bf1f3af3b3775250ade903a5adf5213f9c6a055b84f4ba3db426b", func := "crucible/cruciblelaw18.ThreadJoins", spec := "threadJoins", unfollowed := true, recurses := true, apart := false }
def ThreadJoinsSaid : Prop := threadJoinsRow.holds Try.pinned (OpenSpec.ofChange threadJoinsSpec)

/-- ITS FALSE NEIGHBOUR: 'it returns false'. Refute it at one input. -/
def threadJoinsWrong : ChangeSpec := { name := "threadJoins", fn := fun _ => fun
  | [d1, d2] => { results := [.lit (.bool false)], args := [d1, d2] }
  | _ => none }
def ThreadJoinsWrongFalsely : Prop := threadJoinsRow.holds Try.pinned (OpenSpec.ofChange threadJoinsWrong)

/-- 'cruciblelaw18.ThreadPlays': WHATEVER THE INPUT: true; the input reads as it did. -/
def threadPlaysSpec : ChangeSpec := { name := "threadPlays", fn := fun _ => fun
  | [d] => { results := [.lit (.bool true)], args := [d] }
  | _ => none }
def threadPlaysRow : OpenClaim := { program := "ytaaedebknacheaa", sum := "9878d526e56bf1f3af3b3775250ade903a5adf5213f9c6a055b84f4ba3db426b", func := "crucible/cruciblelaw18.ThreadPlays", spec := "threadPlays", unfollowed := true, recurses := true, apart := false }
def ThreadPlaysSaid : Prop := threadPlaysRow.holds Try.pinned (OpenSpec.ofChange threadPlaysSpec)

/-- ITS FALSE NEIGHBOUR: 'it returns false'. Refute it at one input. -/
def threadPlaysWrong : ChangeSpec := { name := "threadPlays", fn := fun _ => fun
  | [d] => { results := [.lit (.bool false)], args := [d] }
  | _ => none }
def ThreadPlaysWrongFalsely : Prop := threadPlaysRow.holds Try.pinned (OpenSpec.ofChange threadPlaysWrong)

/- THE SECOND FORM. 'bulk': how many values and letters a reading holds, each counted each time it is reached (what is shared counts as often as it is met; a slice's spare places count too). A statement '..UptoSaid' is the law's where the arguments, and the package variables that the reading takes, are together of bulk at most 1048576: NARROWER than '..Said'. Prove '..Said' where nothing that the law and all that it calls make is longer than what came in: it says more and counts as full. Else prove '..UptoSaid'. A law counts once. -/
mutual
def uptoBulk {H : Type} : DataW H → Nat
  | .lit (.string bytes) => bytes.length + 1
  | .lit _ => 1
  | .nil => 1
  | .ptr d => uptoBulk d + 1
  | .slice elems spare => uptoBulkAll elems + uptoBulkAll spare + 1
  | .agg parts => uptoBulkAll parts + 1
  | .iface _ d => uptoBulk d + 1
  | .map entries => uptoBulkEntries entries + 1
  | .held _ => 1
def uptoBulkAll {H : Type} : List (DataW H) → Nat
  | [] => 0
  | d :: r => uptoBulk d + uptoBulkAll r
def uptoBulkEntries {H : Type} : List (Lit × DataW H) → Nat
  | [] => 0
  | x :: r => uptoBulkEntry x + uptoBulkEntries r
def uptoBulkEntry {H : Type} : Lit × DataW H → Nat
  | (.string bytes, d) => bytes.length + uptoBulk d + 1
  | (_, d) => uptoBulk d + 1
 end
def uptoSmall : (H : Type) → List (DataW H) → Bool := fun _ ds => decide (uptoBulkAll ds ≤ 1048576)
def OpenSpec.upto (s : _root_.Go.ChangeSpec) : _root_.Go.OpenSpec := { _root_.Go.OpenSpec.ofChange s with cond := some uptoSmall }

/-- 'cruciblelaw18.ThreadTurns', WHERE WHAT IT READS IS OF BULK AT MOST 1048576: true; the input reads as it did. -/
def threadTurnsUptoRow : OpenClaim := { program := "ytaaedebknacheaa", sum := "9878d526e56bf1f3af3b3775250ade903a5adf5213f9c6a055b84f4ba3db426b", func := "crucible/cruciblelaw18.ThreadTurns", spec := "threadTurns", apart := false, narrowed := true }
def ThreadTurnsUptoSaid : Prop := threadTurnsUptoRow.holds Try.pinned (OpenSpec.upto threadTurnsSpec)

/-- 'cruciblelaw4.CodeOps', WHERE WHAT IT READS IS OF BULK AT MOST 1048576: true; the input reads as it did. -/
def codeOpsUptoRow : OpenClaim := { program := "ytaaedebknacheaa", sum := "9878d526e56bf1f3af3b3775250ade903a5adf5213f9c6a055b84f4ba3db426b", func := "crucible/cruciblelaw4.CodeOps", spec := "codeOps", unfollowed := true, recurses := true, apart := false, narrowed := true }
def CodeOpsUptoSaid : Prop := codeOpsUptoRow.holds Try.pinned (OpenSpec.upto codeOpsSpec)

/-- 'cruciblelaw4.CodeMoves', WHERE WHAT IT READS IS OF BULK AT MOST 1048576: true; the input reads as it did. -/
def codeMovesUptoRow : OpenClaim := { program := "ytaaedebknacheaa", sum := "9878d526e56bf1f3af3b3775250ade903a5adf5213f9c6a055b84f4ba3db426b", func := "crucible/cruciblelaw4.CodeMoves", spec := "codeMoves", unfollowed := true, recurses := true, apart := false, narrowed := true }
def CodeMovesUptoSaid : Prop := codeMovesUptoRow.holds Try.pinned (OpenSpec.upto codeMovesSpec)

/-- 'cruciblelaw4.CodeJoins', WHERE WHAT IT READS IS OF BULK AT MOST 1048576: true; the input reads as it did. -/
def codeJoinsUptoRow : OpenClaim := { program := "ytaaedebknacheaa", sum := "9878d526e56bf1f3af3b3775250ade903a5adf5213f9c6a055b84f4ba3db426b", func := "crucible/cruciblelaw4.CodeJoins", spec := "codeJoins", unfollowed := true, recurses := true, apart := false, narrowed := true }
def CodeJoinsUptoSaid : Prop := codeJoinsUptoRow.holds Try.pinned (OpenSpec.upto codeJoinsSpec)

/-- 'cruciblelaw4.CodeTurns', WHERE WHAT IT READS IS OF BULK AT MOST 1048576: true; the input reads as it did. -/
def codeTurnsUptoRow : OpenClaim := { program := "ytaaedebknacheaa", sum := "9878d526e56bf1f3af3b3775250ade903a5adf5213f9c6a055b84f4ba3db426b", func := "crucible/cruciblelaw4.CodeTurns", spec := "codeTurns", unfollowed := true, recurses := true, apart := false, narrowed := true }
def CodeTurnsUptoSaid : Prop := codeTurnsUptoRow.holds Try.pinned (OpenSpec.upto codeTurnsSpec)

/-- 'cruciblelaw4.CodeReads', WHERE WHAT IT READS IS OF BULK AT MOST 1048576: true; the input reads as it did. -/
def codeReadsUptoRow : OpenClaim := { program := "ytaaedebknacheaa", sum := "9878d526e56bf1f3af3b3775250ade903a5adf5213f9c6a055b84f4ba3db426b", func := "crucible/cruciblelaw4.CodeReads", spec := "codeReads", unfollowed := true, recurses := true, apart := false, narrowed := true }
def CodeReadsUptoSaid : Prop := codeReadsUptoRow.holds Try.pinned (OpenSpec.upto codeReadsSpec)

/-- 'cruciblelaw4.CodeCovers', WHERE WHAT IT READS IS OF BULK AT MOST 1048576: true; the input reads as it did. -/
def codeCoversUptoRow : OpenClaim := { program := "ytaaedebknacheaa", sum := "9878d526e56bf1f3af3b3775250ade903a5adf5213f9c6a055b84f4ba3db426b", func := "crucible/cruciblelaw4.CodeCovers", spec := "codeCovers", unfollowed := true, recurses := true, apart := false, narrowed := true }
def CodeCoversUptoSaid : Prop := codeCoversUptoRow.holds Try.pinned (OpenSpec.upto codeCoversSpec)

/-- 'cruciblelaw18.ThreadCopies', WHERE WHAT IT READS IS OF BULK AT MOST 1048576: true; the input reads as it did. -/
def threadCopiesUptoRow : OpenClaim := { program := "ytaaedebknacheaa", sum := "9878d526e56bf1f3af3b3775250ade903a5adf5213f9c6a055b84f4ba3db426b", func := "crucible/cruciblelaw18.ThreadCopies", spec := "threadCopies", apart := false, narrowed := true }
def ThreadCopiesUptoSaid : Prop := threadCopiesUptoRow.holds Try.pinned (OpenSpec.upto threadCopiesSpec)

/-- 'cruciblelaw4.CodeWrites', WHERE WHAT IT READS IS OF BULK AT MOST 1048576: true; the input reads as it did. -/
def codeWritesUptoRow : OpenClaim := { program := "ytaaedebknacheaa", sum := "9878d526e56bf1f3af3b3775250ade903a5adf5213f9c6a055b84f4ba3db426b", func := "crucible/cruciblelaw4.CodeWrites", spec := "codeWrites", unfollowed := true, recurses := true, apart := false, narrowed := true }
def CodeWritesUptoSaid : Prop := codeWritesUptoRow.holds Try.pinned (OpenSpec.upto codeWritesSpec)

/-- 'cruciblelaw18.ThreadJoins', WHERE WHAT IT READS IS OF BULK AT MOST 1048576: true; the input reads as it did. -/
def threadJoinsUptoRow : OpenClaim := { program := "ytaaedebknacheaa", sum := "9878d526e56bf1f3af3b3775250ade903a5adf5213f9c6a055b84f4ba3db426b", func := "crucible/cruciblelaw18.ThreadJoins", spec := "threadJoins", unfollowed := true, recurses := true, apart := false, narrowed := true }
def ThreadJoinsUptoSaid : Prop := threadJoinsUptoRow.holds Try.pinned (OpenSpec.upto threadJoinsSpec)

/-- 'cruciblelaw18.ThreadPlays', WHERE WHAT IT READS IS OF BULK AT MOST 1048576: true; the input reads as it did. -/
def threadPlaysUptoRow : OpenClaim := { program := "ytaaedebknacheaa", sum := "9878d526e56bf1f3af3b3775250ade903a5adf5213f9c6a055b84f4ba3db426b", func := "crucible/cruciblelaw18.ThreadPlays", spec := "threadPlays", unfollowed := true, recurses := true, apart := false, narrowed := true }
def ThreadPlaysUptoSaid : Prop := threadPlaysUptoRow.holds Try.pinned (OpenSpec.upto threadPlaysSpec)

end Rows
end Go.Proofs.Ytaaedebknacheaa
