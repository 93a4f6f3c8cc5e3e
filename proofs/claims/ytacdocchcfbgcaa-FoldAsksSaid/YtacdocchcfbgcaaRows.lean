/-
  No cell of these rows narrows 'for every input' (looked for: loops, veiled, ifaces, maps, wideKeys, modest, calm, conditions, laid).
  DERIVED. THE GIVEN ROWS OF THIS SEAT. 10 by the template 'for every input the law returns true; each argument reads behind the call as it read before'; 0 by the template 'total and deterministic' (their statements: YtacdocchcfbgcaaTotals.lean).
  GIVEN WITH THE SEED: the statements are not yours to turn. If you find one false, say at which input.
  Laid BY PROGRAM, IN A SANDBOX (cutbox-rows.mjs): the forced cells as the released guide's own fill.sh prints them over the translation 94d565d18516ed39… (all of the seat's roots in one cut). By AI agents, Wed Nov 11 2026. No macro, syntax, notation, axiom, sorry.
-/
import Derived.Test.YtacdocchcfbgcaaChecked
import GoSem.Claim
import GoSem.ClaimJoined
import GoSem.ClaimMapViews
import Derived.JoinedTies
import Derived.KernelRfl
namespace Go.Proofs.Ytacdocchcfbgcaa
/- THE CELL 'sum', in the pinned program and in every row, IS THE sha256 OF THE DUMP (.gsa) THAT YtacdocchcfbgcaaProg.lean LOADS. Nothing in Lean hashes anything: it is a label: what it is worth is what the hold of that sum in a sandbox is worth. -/
noncomputable def Try.pinned : Pinned := { name := "ytacdocchcfbgcaa", sum := "94d565d18516ed393111ec39d9adcb6799386e1d06966d8e4d5963b5dfac310b", checked := Try.checked }
namespace Rows
def none {H : Type} : Left H := { results := [], args := [] }

/-- 'dolmenlaw13.FoldSizes': WHATEVER THE INPUT: true; the input reads as it did. -/
def foldSizesSpec : ChangeSpec := { name := "foldSizes", fn := fun _ => fun
  | [d] => { results := [.lit (.bool true)], args := [d] }
  | _ => none }
def foldSizesRow : OpenClaim := { program := "ytacdocchcfbgcaa", sum := "94d565d18516ed393111ec39d9adcb6799386e1d06966d8e4d5963b5dfac310b", func := "dolmen/dolmenlaw13.FoldSizes", spec := "foldSizes", inPlace := ["internal/reflectlite.TypeOf"], unfollowed := true, recurses := true, apart := false }
def FoldSizesSaid : Prop := foldSizesRow.holds Try.pinned (OpenSpec.ofChange foldSizesSpec)

/-- ITS FALSE NEIGHBOUR: 'it returns false'. Refute it at one input. -/
def foldSizesWrong : ChangeSpec := { name := "foldSizes", fn := fun _ => fun
  | [d] => { results := [.lit (.bool false)], args := [d] }
  | _ => none }
def FoldSizesWrongFalsely : Prop := foldSizesRow.holds Try.pinned (OpenSpec.ofChange foldSizesWrong)

/-- 'dolmenlaw13.FoldChanges': WHATEVER THE INPUT: true; the input reads as it did. -/
def foldChangesSpec : ChangeSpec := { name := "foldChanges", fn := fun _ => fun
  | [d1, d2, d3] => { results := [.lit (.bool true)], args := [d1, d2, d3] }
  | _ => none }
def foldChangesRow : OpenClaim := { program := "ytacdocchcfbgcaa", sum := "94d565d18516ed393111ec39d9adcb6799386e1d06966d8e4d5963b5dfac310b", func := "dolmen/dolmenlaw13.FoldChanges", spec := "foldChanges", inPlace := ["internal/reflectlite.TypeOf"], unfollowed := true, recurses := true, apart := false }
def FoldChangesSaid : Prop := foldChangesRow.holds Try.pinned (OpenSpec.ofChange foldChangesSpec)

/-- ITS FALSE NEIGHBOUR: 'it returns false'. Refute it at one input. -/
def foldChangesWrong : ChangeSpec := { name := "foldChanges", fn := fun _ => fun
  | [d1, d2, d3] => { results := [.lit (.bool false)], args := [d1, d2, d3] }
  | _ => none }
def FoldChangesWrongFalsely : Prop := foldChangesRow.holds Try.pinned (OpenSpec.ofChange foldChangesWrong)

/-- 'dolmenlaw14.CleanAgain': WHATEVER THE INPUT: true; the input reads as it did. -/
def cleanAgainSpec : ChangeSpec := { name := "cleanAgain", fn := fun _ => fun
  | [d1, d2, d3] => { results := [.lit (.bool true)], args := [d1, d2, d3] }
  | _ => none }
def cleanAgainRow : OpenClaim := { program := "ytacdocchcfbgcaa", sum := "94d565d18516ed393111ec39d9adcb6799386e1d06966d8e4d5963b5dfac310b", func := "dolmen/dolmenlaw14.CleanAgain", spec := "cleanAgain", inPlace := ["internal/reflectlite.TypeOf"], unfollowed := true, recurses := true, apart := false }
def CleanAgainSaid : Prop := cleanAgainRow.holds Try.pinned (OpenSpec.ofChange cleanAgainSpec)

/-- ITS FALSE NEIGHBOUR: 'it returns false'. Refute it at one input. -/
def cleanAgainWrong : ChangeSpec := { name := "cleanAgain", fn := fun _ => fun
  | [d1, d2, d3] => { results := [.lit (.bool false)], args := [d1, d2, d3] }
  | _ => none }
def CleanAgainWrongFalsely : Prop := cleanAgainRow.holds Try.pinned (OpenSpec.ofChange cleanAgainWrong)

/-- 'dolmenlaw14.CleanNames': WHATEVER THE INPUT: true; the input reads as it did. -/
def cleanNamesSpec : ChangeSpec := { name := "cleanNames", fn := fun _ => fun
  | [d1, d2] => { results := [.lit (.bool true)], args := [d1, d2] }
  | _ => none }
def cleanNamesRow : OpenClaim := { program := "ytacdocchcfbgcaa", sum := "94d565d18516ed393111ec39d9adcb6799386e1d06966d8e4d5963b5dfac310b", func := "dolmen/dolmenlaw14.CleanNames", spec := "cleanNames", inPlace := ["internal/reflectlite.TypeOf"], unfollowed := true, recurses := true, apart := false }
def CleanNamesSaid : Prop := cleanNamesRow.holds Try.pinned (OpenSpec.ofChange cleanNamesSpec)

/-- ITS FALSE NEIGHBOUR: 'it returns false'. Refute it at one input. -/
def cleanNamesWrong : ChangeSpec := { name := "cleanNames", fn := fun _ => fun
  | [d1, d2] => { results := [.lit (.bool false)], args := [d1, d2] }
  | _ => none }
def CleanNamesWrongFalsely : Prop := cleanNamesRow.holds Try.pinned (OpenSpec.ofChange cleanNamesWrong)

/-- 'dolmenlaw14.CleanWrites': WHATEVER THE INPUT: true; the input reads as it did. -/
def cleanWritesSpec : ChangeSpec := { name := "cleanWrites", fn := fun _ => fun
  | [d1, d2, d3] => { results := [.lit (.bool true)], args := [d1, d2, d3] }
  | _ => none }
def cleanWritesRow : OpenClaim := { program := "ytacdocchcfbgcaa", sum := "94d565d18516ed393111ec39d9adcb6799386e1d06966d8e4d5963b5dfac310b", func := "dolmen/dolmenlaw14.CleanWrites", spec := "cleanWrites", inPlace := ["internal/reflectlite.TypeOf"], unfollowed := true, recurses := true, apart := false }
def CleanWritesSaid : Prop := cleanWritesRow.holds Try.pinned (OpenSpec.ofChange cleanWritesSpec)

/-- ITS FALSE NEIGHBOUR: 'it returns false'. Refute it at one input. -/
def cleanWritesWrong : ChangeSpec := { name := "cleanWrites", fn := fun _ => fun
  | [d1, d2, d3] => { results := [.lit (.bool false)], args := [d1, d2, d3] }
  | _ => none }
def CleanWritesWrongFalsely : Prop := cleanWritesRow.holds Try.pinned (OpenSpec.ofChange cleanWritesWrong)

/-- 'dolmenlaw14.CleanAsks': WHATEVER THE INPUT: true; the input reads as it did. -/
def cleanAsksSpec : ChangeSpec := { name := "cleanAsks", fn := fun _ => fun
  | [d1, d2] => { results := [.lit (.bool true)], args := [d1, d2] }
  | _ => none }
def cleanAsksRow : OpenClaim := { program := "ytacdocchcfbgcaa", sum := "94d565d18516ed393111ec39d9adcb6799386e1d06966d8e4d5963b5dfac310b", func := "dolmen/dolmenlaw14.CleanAsks", spec := "cleanAsks", inPlace := ["internal/reflectlite.TypeOf"], unfollowed := true, recurses := true, apart := false }
def CleanAsksSaid : Prop := cleanAsksRow.holds Try.pinned (OpenSpec.ofChange cleanAsksSpec)

/-- ITS FALSE NEIGHBOUR: 'it returns false'. Refute it at one input. -/
def cleanAsksWrong : ChangeSpec := { name := "cleanAsks", fn := fun _ => fun
  | [d1, d2] => { results := [.lit (.bool false)], args := [d1, d2] }
  | _ => none }
def CleanAsksWrongFalsely : Prop := cleanAsksRow.holds Try.pinned (OpenSpec.ofChange cleanAsksWrong)

/-- 'dolmenlaw13.FoldEpochs': WHATEVER THE INPUT: true; the input reads as it did. -/
def foldEpochsSpec : ChangeSpec := { name := "foldEpochs", fn := fun _ => fun
  | [d1, d2] => { results := [.lit (.bool true)], args := [d1, d2] }
  | _ => none }
def foldEpochsRow : OpenClaim := { program := "ytacdocchcfbgcaa", sum := "94d565d18516ed393111ec39d9adcb6799386e1d06966d8e4d5963b5dfac310b", func := "dolmen/dolmenlaw13.FoldEpochs", spec := "foldEpochs", inPlace := ["internal/reflectlite.TypeOf"], unfollowed := true, recurses := true, apart := false }
def FoldEpochsSaid : Prop := foldEpochsRow.holds Try.pinned (OpenSpec.ofChange foldEpochsSpec)

/-- ITS FALSE NEIGHBOUR: 'it returns false'. Refute it at one input. -/
def foldEpochsWrong : ChangeSpec := { name := "foldEpochs", fn := fun _ => fun
  | [d1, d2] => { results := [.lit (.bool false)], args := [d1, d2] }
  | _ => none }
def FoldEpochsWrongFalsely : Prop := foldEpochsRow.holds Try.pinned (OpenSpec.ofChange foldEpochsWrong)

/-- 'dolmenlaw13.FoldNames': WHATEVER THE INPUT: true; the input reads as it did. -/
def foldNamesSpec : ChangeSpec := { name := "foldNames", fn := fun _ => fun
  | [d1, d2] => { results := [.lit (.bool true)], args := [d1, d2] }
  | _ => none }
def foldNamesRow : OpenClaim := { program := "ytacdocchcfbgcaa", sum := "94d565d18516ed393111ec39d9adcb6799386e1d06966d8e4d5963b5dfac310b", func := "dolmen/dolmenlaw13.FoldNames", spec := "foldNames", inPlace := ["internal/reflectlite.TypeOf"], unfollowed := true, recurses := true, apart := false }
def FoldNamesSaid : Prop := foldNamesRow.holds Try.pinned (OpenSpec.ofChange foldNamesSpec)

/-- ITS FALSE NEIGHBOUR: 'it returns false'. Refute it at one input. -/
def foldNamesWrong : ChangeSpec := { name := "foldNames", fn := fun _ => fun
  | [d1, d2] => { results := [.lit (.bool false)], args := [d1, d2] }
  | _ => none }
def FoldNamesWrongFalsely : Prop := foldNamesRow.holds Try.pinned (OpenSpec.ofChange foldNamesWrong)

/-- 'dolmenlaw13.FoldAsks': WHATEVER THE INPUT: true; the input reads as it did. -/
def foldAsksSpec : ChangeSpec := { name := "foldAsks", fn := fun _ => fun
  | [d1, d2] => { results := [.lit (.bool true)], args := [d1, d2] }
  | _ => none }
def foldAsksRow : OpenClaim := { program := "ytacdocchcfbgcaa", sum := "94d565d18516ed393111ec39d9adcb6799386e1d06966d8e4d5963b5dfac310b", func := "dolmen/dolmenlaw13.FoldAsks", spec := "foldAsks", inPlace := ["internal/reflectlite.TypeOf"], unfollowed := true, recurses := true, apart := false }
def FoldAsksSaid : Prop := foldAsksRow.holds Try.pinned (OpenSpec.ofChange foldAsksSpec)

/-- ITS FALSE NEIGHBOUR: 'it returns false'. Refute it at one input. -/
def foldAsksWrong : ChangeSpec := { name := "foldAsks", fn := fun _ => fun
  | [d1, d2] => { results := [.lit (.bool false)], args := [d1, d2] }
  | _ => none }
def FoldAsksWrongFalsely : Prop := foldAsksRow.holds Try.pinned (OpenSpec.ofChange foldAsksWrong)

/-- 'dolmenlaw14.CleanShows': WHATEVER THE INPUT: true; the input reads as it did. -/
def cleanShowsSpec : ChangeSpec := { name := "cleanShows", fn := fun _ => fun
  | [d1, d2, d3] => { results := [.lit (.bool true)], args := [d1, d2, d3] }
  | _ => none }
def cleanShowsRow : OpenClaim := { program := "ytacdocchcfbgcaa", sum := "94d565d18516ed393111ec39d9adcb6799386e1d06966d8e4d5963b5dfac310b", func := "dolmen/dolmenlaw14.CleanShows", spec := "cleanShows", inPlace := ["internal/reflectlite.TypeOf"], unfollowed := true, recurses := true, apart := false }
def CleanShowsSaid : Prop := cleanShowsRow.holds Try.pinned (OpenSpec.ofChange cleanShowsSpec)

/-- ITS FALSE NEIGHBOUR: 'it returns false'. Refute it at one input. -/
def cleanShowsWrong : ChangeSpec := { name := "cleanShows", fn := fun _ => fun
  | [d1, d2, d3] => { results := [.lit (.bool false)], args := [d1, d2, d3] }
  | _ => none }
def CleanShowsWrongFalsely : Prop := cleanShowsRow.holds Try.pinned (OpenSpec.ofChange cleanShowsWrong)

/- THE SECOND FORM. 'bulk': how many values and letters a reading holds, each counted each time it is reached (what is shared counts as often as it is met; a slice's spare places count too). A statement '..UptoSaid' is the law's where the arguments, and the package variables that the reading takes, are together of bulk at most 1048576: NARROWER than '..Said'. Prove '..Said' where nothing that the law and all that it calls make is longer than what came in: it says more and counts as full. Else prove '..UptoSaid'. A law counts once. -/
mutual
def uptoBulk {H : Type} : DataW H → Nat
  | .lit (.string bytes) => bytes.length + 1
  | .lit _ => 1
  | .nil => 1
  | .ptr d => uptoBulk d + 1
  | .slice elems spare => uptoBulkAll elems + uptoBulkAll spare + 1
  | .agg parts => uptoBulkAll parts + 1
  | .iface _ d => uptoBulk d + 1
  | .map entries => uptoBulkEntries entries + 1
  | .held _ => 1
def uptoBulkAll {H : Type} : List (DataW H) → Nat
  | [] => 0
  | d :: r => uptoBulk d + uptoBulkAll r
def uptoBulkEntries {H : Type} : List (Lit × DataW H) → Nat
  | [] => 0
  | x :: r => uptoBulkEntry x + uptoBulkEntries r
def uptoBulkEntry {H : Type} : Lit × DataW H → Nat
  | (.string bytes, d) => bytes.length + uptoBulk d + 1
  | (_, d) => uptoBulk d + 1
 end
def uptoSmall : (H : Type) → List (DataW H) → Bool := fun _ ds => decide (uptoBulkAll ds ≤ 1048576)
def OpenSpec.upto (s : _root_.Go.ChangeSpec) : _root_.Go.OpenSpec := { _root_.Go.OpenSpec.ofChange s with cond := some uptoSmall }

/-- 'dolmenlaw13.FoldSizes', WHERE WHAT IT READS IS OF BULK AT MOST 1048576: true; the input reads as it did. -/
def foldSizesUptoRow : OpenClaim := { program := "ytacdocchcfbgcaa", sum := "94d565d18516ed393111ec39d9adcb6799386e1d06966d8e4d5963b5dfac310b", func := "dolmen/dolmenlaw13.FoldSizes", spec := "foldSizes", inPlace := ["internal/reflectlite.TypeOf"], unfollowed := true, recurses := true, apart := false, narrowed := true }
def FoldSizesUptoSaid : Prop := foldSizesUptoRow.holds Try.pinned (OpenSpec.upto foldSizesSpec)

/-- 'dolmenlaw13.FoldChanges', WHERE WHAT IT READS IS OF BULK AT MOST 1048576: true; the input reads as it did. -/
def foldChangesUptoRow : OpenClaim := { program := "ytacdocchcfbgcaa", sum := "94d565d18516ed393111ec39d9adcb6799386e1d06966d8e4d5963b5dfac310b", func := "dolmen/dolmenlaw13.FoldChanges", spec := "foldChanges", inPlace := ["internal/reflectlite.TypeOf"], unfollowed := true, recurses := true, apart := false, narrowed := true }
def FoldChangesUptoSaid : Prop := foldChangesUptoRow.holds Try.pinned (OpenSpec.upto foldChangesSpec)

/-- 'dolmenlaw14.CleanAgain', WHERE WHAT IT READS IS OF BULK AT MOST 1048576: true; the input reads as it did. -/
def cleanAgainUptoRow : OpenClaim := { program := "ytacdocchcfbgcaa", sum := "94d565d18516ed393111ec39d9adcb6799386e1d06966d8e4d5963b5dfac310b", func := "dolmen/dolmenlaw14.CleanAgain", spec := "cleanAgain", inPlace := ["internal/reflectlite.TypeOf"], unfollowed := true, recurses := true, apart := false, narrowed := true }
def CleanAgainUptoSaid : Prop := cleanAgainUptoRow.holds Try.pinned (OpenSpec.upto cleanAgainSpec)

/-- 'dolmenlaw14.CleanNames', WHERE WHAT IT READS IS OF BULK AT MOST 1048576: true; the input reads as it did. -/
def cleanNamesUptoRow : OpenClaim := { program := "ytacdocchcfbgcaa", sum := "94d565d18516ed393111ec39d9adcb6799386e1d06966d8e4d5963b5dfac310b", func := "dolmen/dolmenlaw14.CleanNames", spec := "cleanNames", inPlace := ["internal/reflectlite.TypeOf"], unfollowed := true, recurses := true, apart := false, narrowed := true }
def CleanNamesUptoSaid : Prop := cleanNamesUptoRow.holds Try.pinned (OpenSpec.upto cleanNamesSpec)

/-- 'dolmenlaw14.CleanWrites', WHERE WHAT IT READS IS OF BULK AT MOST 1048576: true; the input reads as it did. -/
def cleanWritesUptoRow : OpenClaim := { program := "ytacdocchcfbgcaa", sum := "94d565d18516ed393111ec39d9adcb6799386e1d06966d8e4d5963b5dfac310b", func := "dolmen/dolmenlaw14.CleanWrites", spec := "cleanWrites", inPlace := ["internal/reflectlite.TypeOf"], unfollowed := true, recurses := true, apart := false, narrowed := true }
def CleanWritesUptoSaid : Prop := cleanWritesUptoRow.holds Try.pinned (OpenSpec.upto cleanWritesSpec)

/-- 'dolmenlaw14.CleanAsks', WHERE WHAT IT READS IS OF BULK AT MOST 1048576: true; the input reads as it did. -/
def cleanAsksUptoRow : OpenClaim := { program := "ytacdocchcfbgcaa", sum := "94d565d18516ed393111ec39d9adcb6799386e1d06966d8e4d5963b5dfac310b", func := "dolmen/dolmenlaw14.CleanAsks", spec := "cleanAsks", inPlace := ["internal/reflectlite.TypeOf"], unfollowed := true, recurses := true, apart := false, narrowed := true }
def CleanAsksUptoSaid : Prop := cleanAsksUptoRow.holds Try.pinned (OpenSpec.upto cleanAsksSpec)

/-- 'dolmenlaw13.FoldEpochs', WHERE WHAT IT READS IS OF BULK AT MOST 1048576: true; the input reads as it did. -/
def foldEpochsUptoRow : OpenClaim := { program := "ytacdocchcfbgcaa", sum := "94d565d18516ed393111ec39d9adcb6799386e1d06966d8e4d5963b5dfac310b", func := "dolmen/dolmenlaw13.FoldEpochs", spec := "foldEpochs", inPlace := ["internal/reflectlite.TypeOf"], unfollowed := true, recurses := true, apart := false, narrowed := true }
def FoldEpochsUptoSaid : Prop := foldEpochsUptoRow.holds Try.pinned (OpenSpec.upto foldEpochsSpec)

/-- 'dolmenlaw13.FoldNames', WHERE WHAT IT READS IS OF BULK AT MOST 1048576: true; the input reads as it did. -/
def foldNamesUptoRow : OpenClaim := { program := "ytacdocchcfbgcaa", sum := "94d565d18516ed393111ec39d9adcb6799386e1d06966d8e4d5963b5dfac310b", func := "dolmen/dolmenlaw13.FoldNames", spec := "foldNames", inPlace := ["internal/reflectlite.TypeOf"], unfollowed := true, recurses := true, apart := false, narrowed := true }
def FoldNamesUptoSaid : Prop := foldNamesUptoRow.holds Try.pinned (OpenSpec.upto foldNamesSpec)

/-- 'dolmenlaw13.FoldAsks', WHERE WHAT IT READS IS OF BULK AT MOST 1048576: true; the input reads as it did. -/
def foldAsksUptoRow : OpenClaim := { program := "ytacdocchcfbgcaa", sum := "94d565d18516ed393111ec39d9adcb6799386e1d06966d8e4d5963b5dfac310b", func := "dolmen/dolmenlaw13.FoldAsks", spec := "foldAsks", inPlace := ["internal/reflectlite.TypeOf"], unfollowed := true, recurses := true, apart := false, narrowed := true }
def FoldAsksUptoSaid : Prop := foldAsksUptoRow.holds Try.pinned (OpenSpec.upto foldAsksSpec)

/-- 'dolmenlaw14.CleanShows', WHERE WHAT IT READS IS OF BULK AT MOST 1048576: true; the input reads as it did. -/
def cleanShowsUptoRow : OpenClaim := { program := "ytacdocchcfbgcaa", sum := "94d565d18516ed393111ec39d9adcb6799386e1d06966d8e4d5963b5dfac310b", func := "dolmen/dolmenlaw14.CleanShows", spec := "cleanShows", inPlace := ["internal/reflectlite.TypeOf"], unfollowed := true, recurses := true, apart := false, narrowed := true }
def CleanShowsUptoSaid : Prop := cleanShowsUptoRow.holds Try.pinned (OpenSpec.upto cleanShowsSpec)

end Rows
end Go.Proofs.Ytacdocchcfbgcaa
