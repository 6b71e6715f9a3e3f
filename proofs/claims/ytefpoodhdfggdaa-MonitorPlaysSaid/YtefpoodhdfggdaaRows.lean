/-
  No cell of these rows narrows 'for every input' (looked for: loops, veiled, ifaces, maps, wideKeys, modest, calm, conditions, laid).
  DERIVED. THE GIVEN ROWS OF THIS SEAT. 9 by the template 'for every input the law returns true; each argument reads behind the call as it read before'; 0 by the template 'total and deterministic' (their statements: YtefpoodhdfggdaaTotals.lean).
  GIVEN WITH THE SEED: the statements are not yours to turn. If you find one false, say at which input.
  Laid BY PROGRAM, IN A SANDBOX (cutbox-rows.mjs): the forced cells as the released guide's own fill.sh prints them over the translation b6357a2a4c4abb16… (all of the seat's roots in one cut). By AI agents, Wed Nov 11 2026. No macro, syntax, notation, axiom, sorry.
-/
import Derived.Test.YtefpoodhdfggdaaChecked
import GoSem.Claim
import GoSem.ClaimJoined
import GoSem.ClaimMapViews
import Derived.JoinedTies
import Derived.KernelRfl
namespace Go.Proofs.Ytefpoodhdfggdaa
/- THE CELL 'sum', in the pinned program and in every row, IS THE sha256 OF THE DUMP (.gsa) THAT YtefpoodhdfggdaaProg.lean LOADS. Nothing in Lean hashes anything: it is a label: what it is worth is what the hold of that sum in a sandbox is worth. -/
noncomputable def Try.pinned : Pinned := { name := "ytefpoodhdfggdaa", sum := "b6357a2a4c4abb1606ceba8e2791845ee7d317df6d6810bccfd14ff6f15276df", checked := Try.checked }
namespace Rows
def none {H : Type} : Left H := { results := [], args := [] }

/-- 'cruciblelaw5.ArenaEmpties': WHATEVER THE INPUT: true; the input reads as it did. -/
def arenaEmptiesSpec : ChangeSpec := { name := "arenaEmpties", fn := fun _ => fun
  | [d1, d2, d3] => { results := [.lit (.bool true)], args := [d1, d2, d3] }
  | _ => none }
def arenaEmptiesRow : OpenClaim := { program := "ytefpoodhdfggdaa", sum := "b6357a2a4c4abb1606ceba8e2791845ee7d317df6d6810bccfd14ff6f15276df", func := "crucible/cruciblelaw5.ArenaEmpties", spec := "arenaEmpties", inPlace := ["slices.overlaps[crucible/arena.block]"], unfollowed := true, recurses := true, apart := false }
def ArenaEmptiesSaid : Prop := arenaEmptiesRow.holds Try.pinned (OpenSpec.ofChange arenaEmptiesSpec)

/-- ITS FALSE NEIGHBOUR: 'it returns false'. Refute it at one input. -/
def arenaEmptiesWrong : ChangeSpec := { name := "arenaEmpties", fn := fun _ => fun
  | [d1, d2, d3] => { results := [.lit (.bool false)], args := [d1, d2, d3] }
  | _ => none }
def ArenaEmptiesWrongFalsely : Prop := arenaEmptiesRow.holds Try.pinned (OpenSpec.ofChange arenaEmptiesWrong)

/-- 'cruciblelaw5.ArenaParts': WHATEVER THE INPUT: true; the input reads as it did. -/
def arenaPartsSpec : ChangeSpec := { name := "arenaParts", fn := fun _ => fun
  | [d1, d2] => { results := [.lit (.bool true)], args := [d1, d2] }
  | _ => none }
def arenaPartsRow : OpenClaim := { program := "ytefpoodhdfggdaa", sum := "b6357a2a4c4abb1606ceba8e2791845ee7d317df6d6810bccfd14ff6f15276df", func := "crucible/cruciblelaw5.ArenaParts", spec := "arenaParts", inPlace := ["slices.overlaps[crucible/arena.block]"], unfollowed := true, recurses := true, apart := false }
def ArenaPartsSaid : Prop := arenaPartsRow.holds Try.pinned (OpenSpec.ofChange arenaPartsSpec)

/-- ITS FALSE NEIGHBOUR: 'it returns false'. Refute it at one input. -/
def arenaPartsWrong : ChangeSpec := { name := "arenaParts", fn := fun _ => fun
  | [d1, d2] => { results := [.lit (.bool false)], args := [d1, d2] }
  | _ => none }
def ArenaPartsWrongFalsely : Prop := arenaPartsRow.holds Try.pinned (OpenSpec.ofChange arenaPartsWrong)

/-- 'cruciblelaw5.ArenaAgain': WHATEVER THE INPUT: true; the input reads as it did. -/
def arenaAgainSpec : ChangeSpec := { name := "arenaAgain", fn := fun _ => fun
  | [d1, d2, d3] => { results := [.lit (.bool true)], args := [d1, d2, d3] }
  | _ => none }
def arenaAgainRow : OpenClaim := { program := "ytefpoodhdfggdaa", sum := "b6357a2a4c4abb1606ceba8e2791845ee7d317df6d6810bccfd14ff6f15276df", func := "crucible/cruciblelaw5.ArenaAgain", spec := "arenaAgain", inPlace := ["slices.overlaps[crucible/arena.block]"], unfollowed := true, recurses := true, apart := false }
def ArenaAgainSaid : Prop := arenaAgainRow.holds Try.pinned (OpenSpec.ofChange arenaAgainSpec)

/-- ITS FALSE NEIGHBOUR: 'it returns false'. Refute it at one input. -/
def arenaAgainWrong : ChangeSpec := { name := "arenaAgain", fn := fun _ => fun
  | [d1, d2, d3] => { results := [.lit (.bool false)], args := [d1, d2, d3] }
  | _ => none }
def ArenaAgainWrongFalsely : Prop := arenaAgainRow.holds Try.pinned (OpenSpec.ofChange arenaAgainWrong)

/-- 'cruciblelaw5.ArenaPlays': WHATEVER THE INPUT: true; the input reads as it did. -/
def arenaPlaysSpec : ChangeSpec := { name := "arenaPlays", fn := fun _ => fun
  | [d1, d2] => { results := [.lit (.bool true)], args := [d1, d2] }
  | _ => none }
def arenaPlaysRow : OpenClaim := { program := "ytefpoodhdfggdaa", sum := "b6357a2a4c4abb1606ceba8e2791845ee7d317df6d6810bccfd14ff6f15276df", func := "crucible/cruciblelaw5.ArenaPlays", spec := "arenaPlays", inPlace := ["slices.overlaps[crucible/arena.block]"], unfollowed := true, recurses := true, apart := false }
def ArenaPlaysSaid : Prop := arenaPlaysRow.holds Try.pinned (OpenSpec.ofChange arenaPlaysSpec)

/-- ITS FALSE NEIGHBOUR: 'it returns false'. Refute it at one input. -/
def arenaPlaysWrong : ChangeSpec := { name := "arenaPlays", fn := fun _ => fun
  | [d1, d2] => { results := [.lit (.bool false)], args := [d1, d2] }
  | _ => none }
def ArenaPlaysWrongFalsely : Prop := arenaPlaysRow.holds Try.pinned (OpenSpec.ofChange arenaPlaysWrong)

/-- 'cruciblelaw5.ArenaKeeps': WHATEVER THE INPUT: true; the input reads as it did. -/
def arenaKeepsSpec : ChangeSpec := { name := "arenaKeeps", fn := fun _ => fun
  | [d1, d2] => { results := [.lit (.bool true)], args := [d1, d2] }
  | _ => none }
def arenaKeepsRow : OpenClaim := { program := "ytefpoodhdfggdaa", sum := "b6357a2a4c4abb1606ceba8e2791845ee7d317df6d6810bccfd14ff6f15276df", func := "crucible/cruciblelaw5.ArenaKeeps", spec := "arenaKeeps", inPlace := ["slices.overlaps[crucible/arena.block]"], unfollowed := true, recurses := true, apart := false }
def ArenaKeepsSaid : Prop := arenaKeepsRow.holds Try.pinned (OpenSpec.ofChange arenaKeepsSpec)

/-- ITS FALSE NEIGHBOUR: 'it returns false'. Refute it at one input. -/
def arenaKeepsWrong : ChangeSpec := { name := "arenaKeeps", fn := fun _ => fun
  | [d1, d2] => { results := [.lit (.bool false)], args := [d1, d2] }
  | _ => none }
def ArenaKeepsWrongFalsely : Prop := arenaKeepsRow.holds Try.pinned (OpenSpec.ofChange arenaKeepsWrong)

/-- 'cruciblelaw5.ArenaBest': WHATEVER THE INPUT: true; the input reads as it did. -/
def arenaBestSpec : ChangeSpec := { name := "arenaBest", fn := fun _ => fun
  | [d1, d2, d3] => { results := [.lit (.bool true)], args := [d1, d2, d3] }
  | _ => none }
def arenaBestRow : OpenClaim := { program := "ytefpoodhdfggdaa", sum := "b6357a2a4c4abb1606ceba8e2791845ee7d317df6d6810bccfd14ff6f15276df", func := "crucible/cruciblelaw5.ArenaBest", spec := "arenaBest", inPlace := ["slices.overlaps[crucible/arena.block]"], unfollowed := true, recurses := true, apart := false }
def ArenaBestSaid : Prop := arenaBestRow.holds Try.pinned (OpenSpec.ofChange arenaBestSpec)

/-- ITS FALSE NEIGHBOUR: 'it returns false'. Refute it at one input. -/
def arenaBestWrong : ChangeSpec := { name := "arenaBest", fn := fun _ => fun
  | [d1, d2, d3] => { results := [.lit (.bool false)], args := [d1, d2, d3] }
  | _ => none }
def ArenaBestWrongFalsely : Prop := arenaBestRow.holds Try.pinned (OpenSpec.ofChange arenaBestWrong)

/-- 'cruciblelaw17.MonitorPlays': WHATEVER THE INPUT: true; the input reads as it did. -/
def monitorPlaysSpec : ChangeSpec := { name := "monitorPlays", fn := fun _ => fun
  | [d] => { results := [.lit (.bool true)], args := [d] }
  | _ => none }
def monitorPlaysRow : OpenClaim := { program := "ytefpoodhdfggdaa", sum := "b6357a2a4c4abb1606ceba8e2791845ee7d317df6d6810bccfd14ff6f15276df", func := "crucible/cruciblelaw17.MonitorPlays", spec := "monitorPlays", unfollowed := true, recurses := true, apart := false }
def MonitorPlaysSaid : Prop := monitorPlaysRow.holds Try.pinned (OpenSpec.ofChange monitorPlaysSpec)

/-- ITS FALSE NEIGHBOUR: 'it returns false'. Refute it at one input. -/
def monitorPlaysWrong : ChangeSpec := { name := "monitorPlays", fn := fun _ => fun
  | [d] => { results := [.lit (.bool false)], args := [d] }
  | _ => none }
def MonitorPlaysWrongFalsely : Prop := monitorPlaysRow.holds Try.pinned (OpenSpec.ofChange monitorPlaysWrong)

/-- 'cruciblelaw17.MonitorFair': WHATEVER THE INPUT: true; the input reads as it did. -/
def monitorFairSpec : ChangeSpec := { name := "monitorFair", fn := fun _ => fun
  | [d1, d2] => { results := [.lit (.bool true)], args := [d1, d2] }
  | _ => none }
def monitorFairRow : OpenClaim := { program := "ytefpoodhdfggdaa", sum := "b6357a2a4c4abb1606ceba8e2791845ee7d317df6d6810bccfd14ff6f15276df", func := "crucible/cruciblelaw17.MonitorFair", spec := "monitorFair", unfollowed := true, recurses := true, apart := false }
def MonitorFairSaid : Prop := monitorFairRow.holds Try.pinned (OpenSpec.ofChange monitorFairSpec)

/-- ITS FALSE NEIGHBOUR: 'it returns false'. Refute it at one input. -/
def monitorFairWrong : ChangeSpec := { name := "monitorFair", fn := fun _ => fun
  | [d1, d2] => { results := [.lit (.bool false)], args := [d1, d2] }
  | _ => none }
def MonitorFairWrongFalsely : Prop := monitorFairRow.holds Try.pinned (OpenSpec.ofChange monitorFairWrong)

/-- 'cruciblelaw17.MonitorTimes': WHATEVER THE INPUT: true; the input reads as it did. -/
def monitorTimesSpec : ChangeSpec := { name := "monitorTimes", fn := fun _ => fun
  | [d1, d2, d3, d4] => { results := [.lit (.bool true)], args := [d1, d2, d3, d4] }
  | _ => none }
def monitorTimesRow : OpenClaim := { program := "ytefpoodhdfggdaa", sum := "b6357a2a4c4abb1606ceba8e2791845ee7d317df6d6810bccfd14ff6f15276df", func := "crucible/cruciblelaw17.MonitorTimes", spec := "monitorTimes", unfollowed := true, recurses := true, apart := false }
def MonitorTimesSaid : Prop := monitorTimesRow.holds Try.pinned (OpenSpec.ofChange monitorTimesSpec)

/-- ITS FALSE NEIGHBOUR: 'it returns false'. Refute it at one input. -/
def monitorTimesWrong : ChangeSpec := { name := "monitorTimes", fn := fun _ => fun
  | [d1, d2, d3, d4] => { results := [.lit (.bool false)], args := [d1, d2, d3, d4] }
  | _ => none }
def MonitorTimesWrongFalsely : Prop := monitorTimesRow.holds Try.pinned (OpenSpec.ofChange monitorTimesWrong)

/- THE SECOND FORM. 'bulk': how many values and letters a reading holds, each counted each time it is reached (what is shared counts as often as it is met; a slice's spare places count too). A statement '..UptoSaid' is the law's where the arguments, and the package variables that the reading takes, are together of bulk at most 1048576: NARROWER than '..Said'. Prove '..Said' where nothing that the law and all that it calls make is longer than what came in: it says more and counts as full. Else prove '..UptoSaid'. A law counts once. -/
mutual
def uptoBulk {H : Type} : DataW H → Nat
  | .lit (.string bytes) => bytes.length + 1
  | .lit _ => 1
  | .nil => 1
  | .ptr d => uptoBulk d + 1
  | .slice elems spare => uptoBulkAll elems + uptoBulkAll spare + 1
  | .agg parts => uptoBulkAll parts + 1
  | .iface _ d => uptoBulk d + 1
  | .map entries => uptoBulkEntries entries + 1
  | .held _ => 1
def uptoBulkAll {H : Type} : List (DataW H) → Nat
  | [] => 0
  | d :: r => uptoBulk d + uptoBulkAll r
def uptoBulkEntries {H : Type} : List (Lit × DataW H) → Nat
  | [] => 0
  | x :: r => uptoBulkEntry x + uptoBulkEntries r
def uptoBulkEntry {H : Type} : Lit × DataW H → Nat
  | (.string bytes, d) => bytes.length + uptoBulk d + 1
  | (_, d) => uptoBulk d + 1
 end
def uptoSmall : (H : Type) → List (DataW H) → Bool := fun _ ds => decide (uptoBulkAll ds ≤ 1048576)
def OpenSpec.upto (s : _root_.Go.ChangeSpec) : _root_.Go.OpenSpec := { _root_.Go.OpenSpec.ofChange s with cond := some uptoSmall }

/-- 'cruciblelaw5.ArenaEmpties', WHERE WHAT IT READS IS OF BULK AT MOST 1048576: true; the input reads as it did. -/
def arenaEmptiesUptoRow : OpenClaim := { program := "ytefpoodhdfggdaa", sum := "b6357a2a4c4abb1606ceba8e2791845ee7d317df6d6810bccfd14ff6f15276df", func := "crucible/cruciblelaw5.ArenaEmpties", spec := "arenaEmpties", inPlace := ["slices.overlaps[crucible/arena.block]"], unfollowed := true, recurses := true, apart := false, narrowed := true }
def ArenaEmptiesUptoSaid : Prop := arenaEmptiesUptoRow.holds Try.pinned (OpenSpec.upto arenaEmptiesSpec)

/-- 'cruciblelaw5.ArenaParts', WHERE WHAT IT READS IS OF BULK AT MOST 1048576: true; the input reads as it did. -/
def arenaPartsUptoRow : OpenClaim := { program := "ytefpoodhdfggdaa", sum := "b6357a2a4c4abb1606ceba8e2791845ee7d317df6d6810bccfd14ff6f15276df", func := "crucible/cruciblelaw5.ArenaParts", spec := "arenaParts", inPlace := ["slices.overlaps[crucible/arena.block]"], unfollowed := true, recurses := true, apart := false, narrowed := true }
def ArenaPartsUptoSaid : Prop := arenaPartsUptoRow.holds Try.pinned (OpenSpec.upto arenaPartsSpec)

/-- 'cruciblelaw5.ArenaAgain', WHERE WHAT IT READS IS OF BULK AT MOST 1048576: true; the input reads as it did. -/
def arenaAgainUptoRow : OpenClaim := { program := "ytefpoodhdfggdaa", sum := "b6357a2a4c4abb1606ceba8e2791845ee7d317df6d6810bccfd14ff6f15276df", func := "crucible/cruciblelaw5.ArenaAgain", spec := "arenaAgain", inPlace := ["slices.overlaps[crucible/arena.block]"], unfollowed := true, recurses := true, apart := false, narrowed := true }
def ArenaAgainUptoSaid : Prop := arenaAgainUptoRow.holds Try.pinned (OpenSpec.upto arenaAgainSpec)

/-- 'cruciblelaw5.ArenaPlays', WHERE WHAT IT READS IS OF BULK AT MOST 1048576: true; the input reads as it did. -/
def arenaPlaysUptoRow : OpenClaim := { program := "ytefpoodhdfggdaa", sum := "b6357a2a4c4abb1606ceba8e2791845ee7d317df6d6810bccfd14ff6f15276df", func := "crucible/cruciblelaw5.ArenaPlays", spec := "arenaPlays", inPlace := ["slices.overlaps[crucible/arena.block]"], unfollowed := true, recurses := true, apart := false, narrowed := true }
def ArenaPlaysUptoSaid : Prop := arenaPlaysUptoRow.holds Try.pinned (OpenSpec.upto arenaPlaysSpec)

/-- 'cruciblelaw5.ArenaKeeps', WHERE WHAT IT READS IS OF BULK AT MOST 1048576: true; the input reads as it did. -/
def arenaKeepsUptoRow : OpenClaim := { program := "ytefpoodhdfggdaa", sum := "b6357a2a4c4abb1606ceba8e2791845ee7d317df6d6810bccfd14ff6f15276df", func := "crucible/cruciblelaw5.ArenaKeeps", spec := "arenaKeeps", inPlace := ["slices.overlaps[crucible/arena.block]"], unfollowed := true, recurses := true, apart := false, narrowed := true }
def ArenaKeepsUptoSaid : Prop := arenaKeepsUptoRow.holds Try.pinned (OpenSpec.upto arenaKeepsSpec)

/-- 'cruciblelaw5.ArenaBest', WHERE WHAT IT READS IS OF BULK AT MOST 1048576: true; the input reads as it did. -/
def arenaBestUptoRow : OpenClaim := { program := "ytefpoodhdfggdaa", sum := "b6357a2a4c4abb1606ceba8e2791845ee7d317df6d6810bccfd14ff6f15276df", func := "crucible/cruciblelaw5.ArenaBest", spec := "arenaBest", inPlace := ["slices.overlaps[crucible/arena.block]"], unfollowed := true, recurses := true, apart := false, narrowed := true }
def ArenaBestUptoSaid : Prop := arenaBestUptoRow.holds Try.pinned (OpenSpec.upto arenaBestSpec)

/-- 'cruciblelaw17.MonitorPlays', WHERE WHAT IT READS IS OF BULK AT MOST 1048576: true; the input reads as it did. -/
def monitorPlaysUptoRow : OpenClaim := { program := "ytefpoodhdfggdaa", sum := "b6357a2a4c4abb1606ceba8e2791845ee7d317df6d6810bccfd14ff6f15276df", func := "crucible/cruciblelaw17.MonitorPlays", spec := "monitorPlays", unfollowed := true, recurses := true, apart := false, narrowed := true }
def MonitorPlaysUptoSaid : Prop := monitorPlaysUptoRow.holds Try.pinned (OpenSpec.upto monitorPlaysSpec)

/-- 'cruciblelaw17.MonitorFair', WHERE WHAT IT READS IS OF BULK AT MOST 1048576: true; the input reads as it did. -/
def monitorFairUptoRow : OpenClaim := { program := "ytefpoodhdfggdaa", sum := "b6357a2a4c4abb1606ceba8e2791845ee7d317df6d6810bccfd14ff6f15276df", func := "crucible/cruciblelaw17.MonitorFair", spec := "monitorFair", unfollowed := true, recurses := true, apart := false, narrowed := true }
def MonitorFairUptoSaid : Prop := monitorFairUptoRow.holds Try.pinned (OpenSpec.upto monitorFairSpec)

/-- 'cruciblelaw17.MonitorTimes', WHERE WHAT IT READS IS OF BULK AT MOST 1048576: true; the input reads as it did. -/
def monitorTimesUptoRow : OpenClaim := { program := "ytefpoodhdfggdaa", sum := "b6357a2a4c4abb1606ceba8e2791845ee7d317df6d6810bccfd14ff6f15276df", func := "crucible/cruciblelaw17.MonitorTimes", spec := "monitorTimes", unfollowed := true, recurses := true, apart := false, narrowed := true }
def MonitorTimesUptoSaid : Prop := monitorTimesUptoRow.holds Try.pinned (OpenSpec.upto monitorTimesSpec)

end Rows
end Go.Proofs.Ytefpoodhdfggdaa
