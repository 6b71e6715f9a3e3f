/-
  No cell of these rows narrows 'for every input' (looked for: loops, veiled, ifaces, maps, wideKeys, modest, calm, conditions, laid).
  DERIVED. THE GIVEN ROWS OF THIS SEAT. 9 by the template 'for every input the law returns true; each argument reads behind the call as it read before'; 0 by the template 'total and deterministic' (their statements: YtiomllkdfhglhaaTotals.lean).
  GIVEN WITH THE SEED: the statements are not yours to turn. If you find one false, say at which input.
  Laid BY PROGRAM, IN A SANDBOX (cutbox-rows.mjs): the forced cells as the released guide's own fill.sh prints them over the translation 8532098e34d39899… (all of the seat's roots in one cut). By AI agents, Wed Nov 11 2026. No macro, syntax, notation, axiom, sorry.
-/
import Derived.Test.YtiomllkdfhglhaaChecked
import GoSem.Claim
import GoSem.ClaimJoined
import GoSem.ClaimMapViews
import Derived.JoinedTies
import Derived.KernelRfl
namespace Go.Proofs.Ytiomllkdfhglhaa
/- THE CELL 'sum', in the pinned program and in every row, IS THE sha256 OF THE DUMP (.gsa) THAT YtiomllkdfhglhaaProg.lean LOADS. Nothing in Lean hashes anything: it is a label: what it is worth is what the hold of that sum in a sandbox is worth. -/
noncomputable def Try.pinned : Pinned := { name := "ytiomllkdfhglhaa", sum := "8532098e34d39899e660046bd5ecfd3c56c559d4760940467cda537089b97972", checked := Try.checked }
namespace Rows
def none {H : Type} : Left H := { results := [], args := [] }

/-- 'cruciblelaw8.FlowCovers': WHATEVER THE INPUT: true; the input reads as it did. -/
def flowCoversSpec : ChangeSpec := { name := "flowCovers", fn := fun _ => fun
  | [d1, d2] => { results := [.lit (.bool true)], args := [d1, d2] }
  | _ => none }
def flowCoversRow : OpenClaim := { program := "ytiomllkdfhglhaa", sum := "8532098e34d39899e660046bd5ecfd3c56c559d4760940467cda537089b97972", func := "crucible/cruciblelaw8.FlowCovers", spec := "flowCovers", unfollowed := true, recurses := true, apart := false }
def FlowCoversSaid : Prop := flowCoversRow.holds Try.pinned (OpenSpec.ofChange flowCoversSpec)

/-- ITS FALSE NEIGHBOUR: 'it returns false'. Refute it at one input. -/
def flowCoversWrong : ChangeSpec := { name := "flowCovers", fn := fun _ => fun
  | [d1, d2] => { results := [.lit (.bool false)], args := [d1, d2] }
  | _ => none }
def FlowCoversWrongFalsely : Prop := flowCoversRow.holds Try.pinned (OpenSpec.ofChange flowCoversWrong)

/-- 'cruciblelaw12.RefmapBack': WHATEVER THE INPUT: true; the input reads as it did. -/
def refmapBackSpec : ChangeSpec := { name := "refmapBack", fn := fun _ => fun
  | [d1, d2, d3, d4] => { results := [.lit (.bool true)], args := [d1, d2, d3, d4] }
  | _ => none }
def refmapBackRow : OpenClaim := { program := "ytiomllkdfhglhaa", sum := "8532098e34d39899e660046bd5ecfd3c56c559d4760940467cda537089b97972", func := "crucible/cruciblelaw12.RefmapBack", spec := "refmapBack", unfollowed := true, recurses := true, apart := false }
def RefmapBackSaid : Prop := refmapBackRow.holds Try.pinned (OpenSpec.ofChange refmapBackSpec)

/-- ITS FALSE NEIGHBOUR: 'it returns false'. Refute it at one input. -/
def refmapBackWrong : ChangeSpec := { name := "refmapBack", fn := fun _ => fun
  | [d1, d2, d3, d4] => { results := [.lit (.bool false)], args := [d1, d2, d3, d4] }
  | _ => none }
def RefmapBackWrongFalsely : Prop := refmapBackRow.holds Try.pinned (OpenSpec.ofChange refmapBackWrong)

/-- 'cruciblelaw12.RefmapBelow': WHATEVER THE INPUT: true; the input reads as it did. -/
def refmapBelowSpec : ChangeSpec := { name := "refmapBelow", fn := fun _ => fun
  | [d1, d2] => { results := [.lit (.bool true)], args := [d1, d2] }
  | _ => none }
def refmapBelowRow : OpenClaim := { program := "ytiomllkdfhglhaa", sum := "8532098e34d39899e660046bd5ecfd3c56c559d4760940467cda537089b97972", func := "crucible/cruciblelaw12.RefmapBelow", spec := "refmapBelow", unfollowed := true, recurses := true, apart := false }
def RefmapBelowSaid : Prop := refmapBelowRow.holds Try.pinned (OpenSpec.ofChange refmapBelowSpec)

/-- ITS FALSE NEIGHBOUR: 'it returns false'. Refute it at one input. -/
def refmapBelowWrong : ChangeSpec := { name := "refmapBelow", fn := fun _ => fun
  | [d1, d2] => { results := [.lit (.bool false)], args := [d1, d2] }
  | _ => none }
def RefmapBelowWrongFalsely : Prop := refmapBelowRow.holds Try.pinned (OpenSpec.ofChange refmapBelowWrong)

/-- 'cruciblelaw12.RefmapJoins': WHATEVER THE INPUT: true; the input reads as it did. -/
def refmapJoinsSpec : ChangeSpec := { name := "refmapJoins", fn := fun _ => fun
  | [d1, d2, d3] => { results := [.lit (.bool true)], args := [d1, d2, d3] }
  | _ => none }
def refmapJoinsRow : OpenClaim := { program := "ytiomllkdfhglhaa", sum := "8532098e34d39899e660046bd5ecfd3c56c559d4760940467cda537089b97972", func := "crucible/cruciblelaw12.RefmapJoins", spec := "refmapJoins", unfollowed := true, recurses := true, apart := false }
def RefmapJoinsSaid : Prop := refmapJoinsRow.holds Try.pinned (OpenSpec.ofChange refmapJoinsSpec)

/-- ITS FALSE NEIGHBOUR: 'it returns false'. Refute it at one input. -/
def refmapJoinsWrong : ChangeSpec := { name := "refmapJoins", fn := fun _ => fun
  | [d1, d2, d3] => { results := [.lit (.bool false)], args := [d1, d2, d3] }
  | _ => none }
def RefmapJoinsWrongFalsely : Prop := refmapJoinsRow.holds Try.pinned (OpenSpec.ofChange refmapJoinsWrong)

/-- 'cruciblelaw8.FlowEdges': WHATEVER THE INPUT: true; the input reads as it did. -/
def flowEdgesSpec : ChangeSpec := { name := "flowEdges", fn := fun _ => fun
  | [d1, d2] => { results := [.lit (.bool true)], args := [d1, d2] }
  | _ => none }
def flowEdgesRow : OpenClaim := { program := "ytiomllkdfhglhaa", sum := "8532098e34d39899e660046bd5ecfd3c56c559d4760940467cda537089b97972", func := "crucible/cruciblelaw8.FlowEdges", spec := "flowEdges", unfollowed := true, recurses := true, apart := false }
def FlowEdgesSaid : Prop := flowEdgesRow.holds Try.pinned (OpenSpec.ofChange flowEdgesSpec)

/-- ITS FALSE NEIGHBOUR: 'it returns false'. Refute it at one input. -/
def flowEdgesWrong : ChangeSpec := { name := "flowEdges", fn := fun _ => fun
  | [d1, d2] => { results := [.lit (.bool false)], args := [d1, d2] }
  | _ => none }
def FlowEdgesWrongFalsely : Prop := flowEdgesRow.holds Try.pinned (OpenSpec.ofChange flowEdgesWrong)

/-- 'cruciblelaw8.FlowCloses': WHATEVER THE INPUT: true; the input reads as it did. -/
def flowClosesSpec : ChangeSpec := { name := "flowCloses", fn := fun _ => fun
  | [d1, d2] => { results := [.lit (.bool true)], args := [d1, d2] }
  | _ => none }
def flowClosesRow : OpenClaim := { program := "ytiomllkdfhglhaa", sum := "8532098e34d39899e660046bd5ecfd3c56c559d4760940467cda537089b97972", func := "crucible/cruciblelaw8.FlowCloses", spec := "flowCloses", unfollowed := true, recurses := true, apart := false }
def FlowClosesSaid : Prop := flowClosesRow.holds Try.pinned (OpenSpec.ofChange flowClosesSpec)

/-- ITS FALSE NEIGHBOUR: 'it returns false'. Refute it at one input. -/
def flowClosesWrong : ChangeSpec := { name := "flowCloses", fn := fun _ => fun
  | [d1, d2] => { results := [.lit (.bool false)], args := [d1, d2] }
  | _ => none }
def FlowClosesWrongFalsely : Prop := flowClosesRow.holds Try.pinned (OpenSpec.ofChange flowClosesWrong)

/-- 'cruciblelaw8.FlowGrows': WHATEVER THE INPUT: true; the input reads as it did. -/
def flowGrowsSpec : ChangeSpec := { name := "flowGrows", fn := fun _ => fun
  | [d1, d2, d3] => { results := [.lit (.bool true)], args := [d1, d2, d3] }
  | _ => none }
def flowGrowsRow : OpenClaim := { program := "ytiomllkdfhglhaa", sum := "8532098e34d39899e660046bd5ecfd3c56c559d4760940467cda537089b97972", func := "crucible/cruciblelaw8.FlowGrows", spec := "flowGrows", unfollowed := true, recurses := true, apart := false }
def FlowGrowsSaid : Prop := flowGrowsRow.holds Try.pinned (OpenSpec.ofChange flowGrowsSpec)

/-- ITS FALSE NEIGHBOUR: 'it returns false'. Refute it at one input. -/
def flowGrowsWrong : ChangeSpec := { name := "flowGrows", fn := fun _ => fun
  | [d1, d2, d3] => { results := [.lit (.bool false)], args := [d1, d2, d3] }
  | _ => none }
def FlowGrowsWrongFalsely : Prop := flowGrowsRow.holds Try.pinned (OpenSpec.ofChange flowGrowsWrong)

/-- 'cruciblelaw8.FlowPlain': WHATEVER THE INPUT: true; the input reads as it did. -/
def flowPlainSpec : ChangeSpec := { name := "flowPlain", fn := fun _ => fun
  | [d] => { results := [.lit (.bool true)], args := [d] }
  | _ => none }
def flowPlainRow : OpenClaim := { program := "ytiomllkdfhglhaa", sum := "8532098e34d39899e660046bd5ecfd3c56c559d4760940467cda537089b97972", func := "crucible/cruciblelaw8.FlowPlain", spec := "flowPlain", unfollowed := true, recurses := true, apart := false }
def FlowPlainSaid : Prop := flowPlainRow.holds Try.pinned (OpenSpec.ofChange flowPlainSpec)

/-- ITS FALSE NEIGHBOUR: 'it returns false'. Refute it at one input. -/
def flowPlainWrong : ChangeSpec := { name := "flowPlain", fn := fun _ => fun
  | [d] => { results := [.lit (.bool false)], args := [d] }
  | _ => none }
def FlowPlainWrongFalsely : Prop := flowPlainRow.holds Try.pinned (OpenSpec.ofChange flowPlainWrong)

/-- 'cruciblelaw12.RefmapMakes': WHATEVER THE INPUT: true; the input reads as it did. -/
def refmapMakesSpec : ChangeSpec := { name := "refmapMakes", fn := fun _ => fun
  | [d1, d2, d3] => { results := [.lit (.bool true)], args := [d1, d2, d3] }
  | _ => none }
def refmapMakesRow : OpenClaim := { program := "ytiomllkdfhglhaa", sum := "8532098e34d39899e660046bd5ecfd3c56c559d4760940467cda537089b97972", func := "crucible/cruciblelaw12.RefmapMakes", spec := "refmapMakes", unfollowed := true, recurses := true, apart := false }
def RefmapMakesSaid : Prop := refmapMakesRow.holds Try.pinned (OpenSpec.ofChange refmapMakesSpec)

/-- ITS FALSE NEIGHBOUR: 'it returns false'. Refute it at one input. -/
def refmapMakesWrong : ChangeSpec := { name := "refmapMakes", fn := fun _ => fun
  | [d1, d2, d3] => { results := [.lit (.bool false)], args := [d1, d2, d3] }
  | _ => none }
def RefmapMakesWrongFalsely : Prop := refmapMakesRow.holds Try.pinned (OpenSpec.ofChange refmapMakesWrong)

/- THE SECOND FORM. 'bulk': how many values and letters a reading holds, each counted each time it is reached (what is shared counts as often as it is met; a slice's spare places count too). A statement '..UptoSaid' is the law's where the arguments, and the package variables that the reading takes, are together of bulk at most 1048576: NARROWER than '..Said'. Prove '..Said' where nothing that the law and all that it calls make is longer than what came in: it says more and counts as full. Else prove '..UptoSaid'. A law counts once. -/
mutual
def uptoBulk {H : Type} : DataW H → Nat
  | .lit (.string bytes) => bytes.length + 1
  | .lit _ => 1
  | .nil => 1
  | .ptr d => uptoBulk d + 1
  | .slice elems spare => uptoBulkAll elems + uptoBulkAll spare + 1
  | .agg parts => uptoBulkAll parts + 1
  | .iface _ d => uptoBulk d + 1
  | .map entries => uptoBulkEntries entries + 1
  | .held _ => 1
def uptoBulkAll {H : Type} : List (DataW H) → Nat
  | [] => 0
  | d :: r => uptoBulk d + uptoBulkAll r
def uptoBulkEntries {H : Type} : List (Lit × DataW H) → Nat
  | [] => 0
  | x :: r => uptoBulkEntry x + uptoBulkEntries r
def uptoBulkEntry {H : Type} : Lit × DataW H → Nat
  | (.string bytes, d) => bytes.length + uptoBulk d + 1
  | (_, d) => uptoBulk d + 1
 end
def uptoSmall : (H : Type) → List (DataW H) → Bool := fun _ ds => decide (uptoBulkAll ds ≤ 1048576)
def OpenSpec.upto (s : _root_.Go.ChangeSpec) : _root_.Go.OpenSpec := { _root_.Go.OpenSpec.ofChange s with cond := some uptoSmall }

/-- 'cruciblelaw8.FlowCovers', WHERE WHAT IT READS IS OF BULK AT MOST 1048576: true; the input reads as it did. -/
def flowCoversUptoRow : OpenClaim := { program := "ytiomllkdfhglhaa", sum := "8532098e34d39899e660046bd5ecfd3c56c559d4760940467cda537089b97972", func := "crucible/cruciblelaw8.FlowCovers", spec := "flowCovers", unfollowed := true, recurses := true, apart := false, narrowed := true }
def FlowCoversUptoSaid : Prop := flowCoversUptoRow.holds Try.pinned (OpenSpec.upto flowCoversSpec)

/-- 'cruciblelaw12.RefmapBack', WHERE WHAT IT READS IS OF BULK AT MOST 1048576: true; the input reads as it did. -/
def refmapBackUptoRow : OpenClaim := { program := "ytiomllkdfhglhaa", sum := "8532098e34d39899e660046bd5ecfd3c56c559d4760940467cda537089b97972", func := "crucible/cruciblelaw12.RefmapBack", spec := "refmapBack", unfollowed := true, recurses := true, apart := false, narrowed := true }
def RefmapBackUptoSaid : Prop := refmapBackUptoRow.holds Try.pinned (OpenSpec.upto refmapBackSpec)

/-- 'cruciblelaw12.RefmapBelow', WHERE WHAT IT READS IS OF BULK AT MOST 1048576: true; the input reads as it did. -/
def refmapBelowUptoRow : OpenClaim := { program := "ytiomllkdfhglhaa", sum := "8532098e34d39899e660046bd5ecfd3c56c559d4760940467cda537089b97972", func := "crucible/cruciblelaw12.RefmapBelow", spec := "refmapBelow", unfollowed := true, recurses := true, apart := false, narrowed := true }
def RefmapBelowUptoSaid : Prop := refmapBelowUptoRow.holds Try.pinned (OpenSpec.upto refmapBelowSpec)

/-- 'cruciblelaw12.RefmapJoins', WHERE WHAT IT READS IS OF BULK AT MOST 1048576: true; the input reads as it did. -/
def refmapJoinsUptoRow : OpenClaim := { program := "ytiomllkdfhglhaa", sum := "8532098e34d39899e660046bd5ecfd3c56c559d4760940467cda537089b97972", func := "crucible/cruciblelaw12.RefmapJoins", spec := "refmapJoins", unfollowed := true, recurses := true, apart := false, narrowed := true }
def RefmapJoinsUptoSaid : Prop := refmapJoinsUptoRow.holds Try.pinned (OpenSpec.upto refmapJoinsSpec)

/-- 'cruciblelaw8.FlowEdges', WHERE WHAT IT READS IS OF BULK AT MOST 1048576: true; the input reads as it did. -/
def flowEdgesUptoRow : OpenClaim := { program := "ytiomllkdfhglhaa", sum := "8532098e34d39899e660046bd5ecfd3c56c559d4760940467cda537089b97972", func := "crucible/cruciblelaw8.FlowEdges", spec := "flowEdges", unfollowed := true, recurses := true, apart := false, narrowed := true }
def FlowEdgesUptoSaid : Prop := flowEdgesUptoRow.holds Try.pinned (OpenSpec.upto flowEdgesSpec)

/-- 'cruciblelaw8.FlowCloses', WHERE WHAT IT READS IS OF BULK AT MOST 1048576: true; the input reads as it did. -/
def flowClosesUptoRow : OpenClaim := { program := "ytiomllkdfhglhaa", sum := "8532098e34d39899e660046bd5ecfd3c56c559d4760940467cda537089b97972", func := "crucible/cruciblelaw8.FlowCloses", spec := "flowCloses", unfollowed := true, recurses := true, apart := false, narrowed := true }
def FlowClosesUptoSaid : Prop := flowClosesUptoRow.holds Try.pinned (OpenSpec.upto flowClosesSpec)

/-- 'cruciblelaw8.FlowGrows', WHERE WHAT IT READS IS OF BULK AT MOST 1048576: true; the input reads as it did. -/
def flowGrowsUptoRow : OpenClaim := { program := "ytiomllkdfhglhaa", sum := "8532098e34d39899e660046bd5ecfd3c56c559d4760940467cda537089b97972", func := "crucible/cruciblelaw8.FlowGrows", spec := "flowGrows", unfollowed := true, recurses := true, apart := false, narrowed := true }
def FlowGrowsUptoSaid : Prop := flowGrowsUptoRow.holds Try.pinned (OpenSpec.upto flowGrowsSpec)

/-- 'cruciblelaw8.FlowPlain', WHERE WHAT IT READS IS OF BULK AT MOST 1048576: true; the input reads as it did. -/
def flowPlainUptoRow : OpenClaim := { program := "ytiomllkdfhglhaa", sum := "8532098e34d39899e660046bd5ecfd3c56c559d4760940467cda537089b97972", func := "crucible/cruciblelaw8.FlowPlain", spec := "flowPlain", unfollowed := true, recurses := true, apart := false, narrowed := true }
def FlowPlainUptoSaid : Prop := flowPlainUptoRow.holds Try.pinned (OpenSpec.upto flowPlainSpec)

/-- 'cruciblelaw12.RefmapMakes', WHERE WHAT IT READS IS OF BULK AT MOST 1048576: true; the input reads as it did. -/
def refmapMakesUptoRow : OpenClaim := { program := "ytiomllkdfhglhaa", sum := "8532098e34d39899e660046bd5ecfd3c56c559d4760940467cda537089b97972", func := "crucible/cruciblelaw12.RefmapMakes", spec := "refmapMakes", unfollowed := true, recurses := true, apart := false, narrowed := true }
def RefmapMakesUptoSaid : Prop := refmapMakesUptoRow.holds Try.pinned (OpenSpec.upto refmapMakesSpec)

end Rows
end Go.Proofs.Ytiomllkdfhglhaa
