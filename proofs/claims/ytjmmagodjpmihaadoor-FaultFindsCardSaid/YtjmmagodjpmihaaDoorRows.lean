/-
  NARROWER THAN 'FOR EVERY INPUT', by the rows' own cells (each row's printed sentence says how): FaultKeeps: laid · FaultOrder: laid · FaultBoth: laid · FaultFinds: laid · FaultAsks: loops, laid · FaultInner: loops, laid · FaultNone: laid.
  DERIVED. THE GIVEN ROWS OF THIS SEAT. 7 by the template 'for every input the law returns true; each argument reads behind the call as it read before'; 0 by the template 'total and deterministic' (their statements: YtjmmagodjpmihaaDoorTotals.lean).
  GIVEN WITH THE SEED: the statements are not yours to turn. If you find one false, say at which input.
  Laid BY PROGRAM, IN A SANDBOX (cutbox-rows.mjs): the forced cells as the released guide's own fill.sh prints them over the translation 2dce79d2a5fd4103… (all of the seat's roots in one cut). By AI agents, Wed Nov 11 2026. No macro, syntax, notation, axiom, sorry.
-/
import Derived.Test.YtjmmagodjpmihaaDoorChecked
import GoSem.Claim
import GoSem.ClaimJoined
import GoSem.ClaimMapViews
import Derived.JoinedTies
import Derived.KernelRfl
namespace Go.Proofs.YtjmmagodjpmihaaDoor
/- THE CELL 'sum', in the pinned program and in every row, IS THE sha256 OF THE DUMP (.gsa) THAT YtjmmagodjpmihaaDoorProg.lean LOADS. Nothing in Lean hashes anything: it is a label: what it is worth is what the hold of that sum in a sandbox is worth. -/
noncomputable def Tryd.pinned : Pinned := { name := "ytjmmagodjpmihaadoor", sum := "2dce79d2a5fd4103af2e1559c3000121ab4b7bfc281c5620d8c1cdc06fd6206e", checked := Tryd.checked }
namespace Rows
def none {H : Type} : Left H := { results := [], args := [] }

/- WHAT THE LISTED PACKAGE-LEVEL VARIABLES READ AS WHEN THE CALL BEGINS. Each datum BY PROGRAM (the guide's laid-datum.mjs) off the statement by which the dump's own 'gosem.cut.vars' lays the variable. In a bare row this is a premise. The card (YtjmmagodjpmihaaDoorCards.lean) ties it to the program's text. -/
def laid_errors_errorType {H : Type} : DataW H := .iface "internal/reflectlite.rtype" (.agg [.ptr (.lit (.string [101, 114, 114, 111, 114]))])

/-- 'dolmenlaw3.FaultKeeps': WHATEVER THE INPUT: true; the input reads as it did. -/
def faultKeepsSpec : ChangeSpec := { name := "faultKeeps", fn := fun _ => fun
  | [d1, d2, d3] => { results := [.lit (.bool true)], args := [d1, d2, d3] }
  | _ => none }
def faultKeepsRow : OpenClaim := { program := "ytjmmagodjpmihaadoor", sum := "2dce79d2a5fd4103af2e1559c3000121ab4b7bfc281c5620d8c1cdc06fd6206e", func := "dolmen/dolmenlaw3.FaultKeeps", spec := "faultKeeps", inPlace := ["internal/reflectlite.ValueOf", "(internal/reflectlite.Value).Type", "(internal/reflectlite.Value).IsNil", "internal/reflectlite.TypeOf", "(internal/reflectlite.Value).Elem", "(internal/reflectlite.Value).Set"], unfollowed := true, recurses := true, named := ["errors.errorType"], apart := false, laid := [("errors.errorType", laid_errors_errorType)] }
def FaultKeepsSaid : Prop := faultKeepsRow.holds Tryd.pinned (OpenSpec.ofChange faultKeepsSpec)

/-- ITS FALSE NEIGHBOUR: 'it returns false'. Refute it at one input. -/
def faultKeepsWrong : ChangeSpec := { name := "faultKeeps", fn := fun _ => fun
  | [d1, d2, d3] => { results := [.lit (.bool false)], args := [d1, d2, d3] }
  | _ => none }
def FaultKeepsWrongFalsely : Prop := faultKeepsRow.holds Tryd.pinned (OpenSpec.ofChange faultKeepsWrong)

/-- 'dolmenlaw3.FaultOrder': WHATEVER THE INPUT: true; the input reads as it did. -/
def faultOrderSpec : ChangeSpec := { name := "faultOrder", fn := fun _ => fun
  | [d1, d2] => { results := [.lit (.bool true)], args := [d1, d2] }
  | _ => none }
def faultOrderRow : OpenClaim := { program := "ytjmmagodjpmihaadoor", sum := "2dce79d2a5fd4103af2e1559c3000121ab4b7bfc281c5620d8c1cdc06fd6206e", func := "dolmen/dolmenlaw3.FaultOrder", spec := "faultOrder", inPlace := ["internal/reflectlite.ValueOf", "(internal/reflectlite.Value).Type", "(internal/reflectlite.Value).IsNil", "internal/reflectlite.TypeOf", "(internal/reflectlite.Value).Elem", "(internal/reflectlite.Value).Set"], unfollowed := true, recurses := true, named := ["errors.errorType"], apart := false, laid := [("errors.errorType", laid_errors_errorType)] }
def FaultOrderSaid : Prop := faultOrderRow.holds Tryd.pinned (OpenSpec.ofChange faultOrderSpec)

/-- ITS FALSE NEIGHBOUR: 'it returns false'. Refute it at one input. -/
def faultOrderWrong : ChangeSpec := { name := "faultOrder", fn := fun _ => fun
  | [d1, d2] => { results := [.lit (.bool false)], args := [d1, d2] }
  | _ => none }
def FaultOrderWrongFalsely : Prop := faultOrderRow.holds Tryd.pinned (OpenSpec.ofChange faultOrderWrong)

/-- 'dolmenlaw3.FaultBoth': WHATEVER THE INPUT: true; the input reads as it did. -/
def faultBothSpec : ChangeSpec := { name := "faultBoth", fn := fun _ => fun
  | [d1, d2] => { results := [.lit (.bool true)], args := [d1, d2] }
  | _ => none }
def faultBothRow : OpenClaim := { program := "ytjmmagodjpmihaadoor", sum := "2dce79d2a5fd4103af2e1559c3000121ab4b7bfc281c5620d8c1cdc06fd6206e", func := "dolmen/dolmenlaw3.FaultBoth", spec := "faultBoth", inPlace := ["internal/reflectlite.ValueOf", "(internal/reflectlite.Value).Type", "(internal/reflectlite.Value).IsNil", "internal/reflectlite.TypeOf", "(internal/reflectlite.Value).Elem", "(internal/reflectlite.Value).Set"], unfollowed := true, recurses := true, named := ["errors.errorType"], apart := false, laid := [("errors.errorType", laid_errors_errorType)] }
def FaultBothSaid : Prop := faultBothRow.holds Tryd.pinned (OpenSpec.ofChange faultBothSpec)

/-- ITS FALSE NEIGHBOUR: 'it returns false'. Refute it at one input. -/
def faultBothWrong : ChangeSpec := { name := "faultBoth", fn := fun _ => fun
  | [d1, d2] => { results := [.lit (.bool false)], args := [d1, d2] }
  | _ => none }
def FaultBothWrongFalsely : Prop := faultBothRow.holds Tryd.pinned (OpenSpec.ofChange faultBothWrong)

/-- 'dolmenlaw3.FaultFinds': WHATEVER THE INPUT: true; the input reads as it did. -/
def faultFindsSpec : ChangeSpec := { name := "faultFinds", fn := fun _ => fun
  | [d1, d2, d3, d4] => { results := [.lit (.bool true)], args := [d1, d2, d3, d4] }
  | _ => none }
def faultFindsRow : OpenClaim := { program := "ytjmmagodjpmihaadoor", sum := "2dce79d2a5fd4103af2e1559c3000121ab4b7bfc281c5620d8c1cdc06fd6206e", func := "dolmen/dolmenlaw3.FaultFinds", spec := "faultFinds", inPlace := ["internal/reflectlite.ValueOf", "(internal/reflectlite.Value).Type", "(internal/reflectlite.Value).IsNil", "internal/reflectlite.TypeOf", "(internal/reflectlite.Value).Elem", "(internal/reflectlite.Value).Set"], unfollowed := true, recurses := true, named := ["errors.errorType"], apart := false, laid := [("errors.errorType", laid_errors_errorType)] }
def FaultFindsSaid : Prop := faultFindsRow.holds Tryd.pinned (OpenSpec.ofChange faultFindsSpec)

/-- ITS FALSE NEIGHBOUR: 'it returns false'. Refute it at one input. -/
def faultFindsWrong : ChangeSpec := { name := "faultFinds", fn := fun _ => fun
  | [d1, d2, d3, d4] => { results := [.lit (.bool false)], args := [d1, d2, d3, d4] }
  | _ => none }
def FaultFindsWrongFalsely : Prop := faultFindsRow.holds Tryd.pinned (OpenSpec.ofChange faultFindsWrong)

/-- 'dolmenlaw3.FaultAsks': WHATEVER THE INPUT: true; the input reads as it did. -/
def faultAsksSpec : ChangeSpec := { name := "faultAsks", fn := fun _ => fun
  | [d1, d2] => { results := [.lit (.bool true)], args := [d1, d2] }
  | _ => none }
def faultAsksRow : OpenClaim := { program := "ytjmmagodjpmihaadoor", sum := "2dce79d2a5fd4103af2e1559c3000121ab4b7bfc281c5620d8c1cdc06fd6206e", func := "dolmen/dolmenlaw3.FaultAsks", spec := "faultAsks", inPlace := ["internal/reflectlite.ValueOf", "(internal/reflectlite.Value).Type", "(internal/reflectlite.Value).IsNil", "internal/reflectlite.TypeOf", "(internal/reflectlite.Value).Elem", "(internal/reflectlite.Value).Set"], unfollowed := true, recurses := true, named := ["errors.errorType"], loops := true, apart := false, laid := [("errors.errorType", laid_errors_errorType)] }
def FaultAsksSaid : Prop := faultAsksRow.holds Tryd.pinned (OpenSpec.ofChange faultAsksSpec)

/-- ITS FALSE NEIGHBOUR: 'it returns false'. Refute it at one input. -/
def faultAsksWrong : ChangeSpec := { name := "faultAsks", fn := fun _ => fun
  | [d1, d2] => { results := [.lit (.bool false)], args := [d1, d2] }
  | _ => none }
def FaultAsksWrongFalsely : Prop := faultAsksRow.holds Tryd.pinned (OpenSpec.ofChange faultAsksWrong)

/-- 'dolmenlaw3.FaultInner': WHATEVER THE INPUT: true; the input reads as it did. -/
def faultInnerSpec : ChangeSpec := { name := "faultInner", fn := fun _ => fun
  | [d] => { results := [.lit (.bool true)], args := [d] }
  | _ => none }
def faultInnerRow : OpenClaim := { program := "ytjmmagodjpmihaadoor", sum := "2dce79d2a5fd4103af2e1559c3000121ab4b7bfc281c5620d8c1cdc06fd6206e", func := "dolmen/dolmenlaw3.FaultInner", spec := "faultInner", inPlace := ["internal/reflectlite.ValueOf", "(internal/reflectlite.Value).Type", "(internal/reflectlite.Value).IsNil", "internal/reflectlite.TypeOf", "(internal/reflectlite.Value).Elem", "(internal/reflectlite.Value).Set"], unfollowed := true, recurses := true, named := ["errors.errorType"], loops := true, apart := false, laid := [("errors.errorType", laid_errors_errorType)] }
def FaultInnerSaid : Prop := faultInnerRow.holds Tryd.pinned (OpenSpec.ofChange faultInnerSpec)

/-- ITS FALSE NEIGHBOUR: 'it returns false'. Refute it at one input. -/
def faultInnerWrong : ChangeSpec := { name := "faultInner", fn := fun _ => fun
  | [d] => { results := [.lit (.bool false)], args := [d] }
  | _ => none }
def FaultInnerWrongFalsely : Prop := faultInnerRow.holds Tryd.pinned (OpenSpec.ofChange faultInnerWrong)

/-- 'dolmenlaw3.FaultNone': WHATEVER THE INPUT: true; the input reads as it did. -/
def faultNoneSpec : ChangeSpec := { name := "faultNone", fn := fun _ => fun
  | [d1, d2] => { results := [.lit (.bool true)], args := [d1, d2] }
  | _ => none }
def faultNoneRow : OpenClaim := { program := "ytjmmagodjpmihaadoor", sum := "2dce79d2a5fd4103af2e1559c3000121ab4b7bfc281c5620d8c1cdc06fd6206e", func := "dolmen/dolmenlaw3.FaultNone", spec := "faultNone", inPlace := ["internal/reflectlite.ValueOf", "(internal/reflectlite.Value).Type", "(internal/reflectlite.Value).IsNil", "internal/reflectlite.TypeOf", "(internal/reflectlite.Value).Elem", "(internal/reflectlite.Value).Set"], unfollowed := true, recurses := true, named := ["errors.errorType"], apart := false, laid := [("errors.errorType", laid_errors_errorType)] }
def FaultNoneSaid : Prop := faultNoneRow.holds Tryd.pinned (OpenSpec.ofChange faultNoneSpec)

/-- ITS FALSE NEIGHBOUR: 'it returns false'. Refute it at one input. -/
def faultNoneWrong : ChangeSpec := { name := "faultNone", fn := fun _ => fun
  | [d1, d2] => { results := [.lit (.bool false)], args := [d1, d2] }
  | _ => none }
def FaultNoneWrongFalsely : Prop := faultNoneRow.holds Tryd.pinned (OpenSpec.ofChange faultNoneWrong)

/- THE SECOND FORM. 'bulk': how many values and letters a reading holds, each counted each time it is reached (what is shared counts as often as it is met; a slice's spare places count too). A statement '..UptoSaid' is the law's where the arguments, and the package variables that the reading takes, are together of bulk at most 1048576: NARROWER than '..Said'. Prove '..Said' where nothing that the law and all that it calls make is longer than what came in: it says more and counts as full. Else prove '..UptoSaid'. A law counts once. -/
mutual
def uptoBulk {H : Type} : DataW H → Nat
  | .lit (.string bytes) => bytes.length + 1
  | .lit _ => 1
  | .nil => 1
  | .ptr d => uptoBulk d + 1
  | .slice elems spare => uptoBulkAll elems + uptoBulkAll spare + 1
  | .agg parts => uptoBulkAll parts + 1
  | .iface _ d => uptoBulk d + 1
  | .map entries => uptoBulkEntries entries + 1
  | .held _ => 1
def uptoBulkAll {H : Type} : List (DataW H) → Nat
  | [] => 0
  | d :: r => uptoBulk d + uptoBulkAll r
def uptoBulkEntries {H : Type} : List (Lit × DataW H) → Nat
  | [] => 0
  | x :: r => uptoBulkEntry x + uptoBulkEntries r
def uptoBulkEntry {H : Type} : Lit × DataW H → Nat
  | (.string bytes, d) => bytes.length + uptoBulk d + 1
  | (_, d) => uptoBulk d + 1
 end
def uptoSmall : (H : Type) → List (DataW H) → Bool := fun _ ds => decide (uptoBulkAll ds ≤ 1048576)
def OpenSpec.upto (s : _root_.Go.ChangeSpec) : _root_.Go.OpenSpec := { _root_.Go.OpenSpec.ofChange s with cond := some uptoSmall }

/-- 'dolmenlaw3.FaultKeeps', WHERE WHAT IT READS IS OF BULK AT MOST 1048576: true; the input reads as it did. -/
def faultKeepsUptoRow : OpenClaim := { program := "ytjmmagodjpmihaadoor", sum := "2dce79d2a5fd4103af2e1559c3000121ab4b7bfc281c5620d8c1cdc06fd6206e", func := "dolmen/dolmenlaw3.FaultKeeps", spec := "faultKeeps", inPlace := ["internal/reflectlite.ValueOf", "(internal/reflectlite.Value).Type", "(internal/reflectlite.Value).IsNil", "internal/reflectlite.TypeOf", "(internal/reflectlite.Value).Elem", "(internal/reflectlite.Value).Set"], unfollowed := true, recurses := true, named := ["errors.errorType"], apart := false, laid := [("errors.errorType", laid_errors_errorType)], narrowed := true }
def FaultKeepsUptoSaid : Prop := faultKeepsUptoRow.holds Tryd.pinned (OpenSpec.upto faultKeepsSpec)

/-- 'dolmenlaw3.FaultOrder', WHERE WHAT IT READS IS OF BULK AT MOST 1048576: true; the input reads as it did. -/
def faultOrderUptoRow : OpenClaim := { program := "ytjmmagodjpmihaadoor", sum := "2dce79d2a5fd4103af2e1559c3000121ab4b7bfc281c5620d8c1cdc06fd6206e", func := "dolmen/dolmenlaw3.FaultOrder", spec := "faultOrder", inPlace := ["internal/reflectlite.ValueOf", "(internal/reflectlite.Value).Type", "(internal/reflectlite.Value).IsNil", "internal/reflectlite.TypeOf", "(internal/reflectlite.Value).Elem", "(internal/reflectlite.Value).Set"], unfollowed := true, recurses := true, named := ["errors.errorType"], apart := false, laid := [("errors.errorType", laid_errors_errorType)], narrowed := true }
def FaultOrderUptoSaid : Prop := faultOrderUptoRow.holds Tryd.pinned (OpenSpec.upto faultOrderSpec)

/-- 'dolmenlaw3.FaultBoth', WHERE WHAT IT READS IS OF BULK AT MOST 1048576: true; the input reads as it did. -/
def faultBothUptoRow : OpenClaim := { program := "ytjmmagodjpmihaadoor", sum := "2dce79d2a5fd4103af2e1559c3000121ab4b7bfc281c5620d8c1cdc06fd6206e", func := "dolmen/dolmenlaw3.FaultBoth", spec := "faultBoth", inPlace := ["internal/reflectlite.ValueOf", "(internal/reflectlite.Value).Type", "(internal/reflectlite.Value).IsNil", "internal/reflectlite.TypeOf", "(internal/reflectlite.Value).Elem", "(internal/reflectlite.Value).Set"], unfollowed := true, recurses := true, named := ["errors.errorType"], apart := false, laid := [("errors.errorType", laid_errors_errorType)], narrowed := true }
def FaultBothUptoSaid : Prop := faultBothUptoRow.holds Tryd.pinned (OpenSpec.upto faultBothSpec)

/-- 'dolmenlaw3.FaultFinds', WHERE WHAT IT READS IS OF BULK AT MOST 1048576: true; the input reads as it did. -/
def faultFindsUptoRow : OpenClaim := { program := "ytjmmagodjpmihaadoor", sum := "2dce79d2a5fd4103af2e1559c3000121ab4b7bfc281c5620d8c1cdc06fd6206e", func := "dolmen/dolmenlaw3.FaultFinds", spec := "faultFinds", inPlace := ["internal/reflectlite.ValueOf", "(internal/reflectlite.Value).Type", "(internal/reflectlite.Value).IsNil", "internal/reflectlite.TypeOf", "(internal/reflectlite.Value).Elem", "(internal/reflectlite.Value).Set"], unfollowed := true, recurses := true, named := ["errors.errorType"], apart := false, laid := [("errors.errorType", laid_errors_errorType)], narrowed := true }
def FaultFindsUptoSaid : Prop := faultFindsUptoRow.holds Tryd.pinned (OpenSpec.upto faultFindsSpec)

/-- 'dolmenlaw3.FaultAsks', WHERE WHAT IT READS IS OF BULK AT MOST 1048576: true; the input reads as it did. -/
def faultAsksUptoRow : OpenClaim := { program := "ytjmmagodjpmihaadoor", sum := "2dce79d2a5fd4103af2e1559c3000121ab4b7bfc281c5620d8c1cdc06fd6206e", func := "dolmen/dolmenlaw3.FaultAsks", spec := "faultAsks", inPlace := ["internal/reflectlite.ValueOf", "(internal/reflectlite.Value).Type", "(internal/reflectlite.Value).IsNil", "internal/reflectlite.TypeOf", "(internal/reflectlite.Value).Elem", "(internal/reflectlite.Value).Set"], unfollowed := true, recurses := true, named := ["errors.errorType"], loops := true, apart := false, laid := [("errors.errorType", laid_errors_errorType)], narrowed := true }
def FaultAsksUptoSaid : Prop := faultAsksUptoRow.holds Tryd.pinned (OpenSpec.upto faultAsksSpec)

/-- 'dolmenlaw3.FaultInner', WHERE WHAT IT READS IS OF BULK AT MOST 1048576: true; the input reads as it did. -/
def faultInnerUptoRow : OpenClaim := { program := "ytjmmagodjpmihaadoor", sum := "2dce79d2a5fd4103af2e1559c3000121ab4b7bfc281c5620d8c1cdc06fd6206e", func := "dolmen/dolmenlaw3.FaultInner", spec := "faultInner", inPlace := ["internal/reflectlite.ValueOf", "(internal/reflectlite.Value).Type", "(internal/reflectlite.Value).IsNil", "internal/reflectlite.TypeOf", "(internal/reflectlite.Value).Elem", "(internal/reflectlite.Value).Set"], unfollowed := true, recurses := true, named := ["errors.errorType"], loops := true, apart := false, laid := [("errors.errorType", laid_errors_errorType)], narrowed := true }
def FaultInnerUptoSaid : Prop := faultInnerUptoRow.holds Tryd.pinned (OpenSpec.upto faultInnerSpec)

/-- 'dolmenlaw3.FaultNone', WHERE WHAT IT READS IS OF BULK AT MOST 1048576: true; the input reads as it did. -/
def faultNoneUptoRow : OpenClaim := { program := "ytjmmagodjpmihaadoor", sum := "2dce79d2a5fd4103af2e1559c3000121ab4b7bfc281c5620d8c1cdc06fd6206e", func := "dolmen/dolmenlaw3.FaultNone", spec := "faultNone", inPlace := ["internal/reflectlite.ValueOf", "(internal/reflectlite.Value).Type", "(internal/reflectlite.Value).IsNil", "internal/reflectlite.TypeOf", "(internal/reflectlite.Value).Elem", "(internal/reflectlite.Value).Set"], unfollowed := true, recurses := true, named := ["errors.errorType"], apart := false, laid := [("errors.errorType", laid_errors_errorType)], narrowed := true }
def FaultNoneUptoSaid : Prop := faultNoneUptoRow.holds Tryd.pinned (OpenSpec.upto faultNoneSpec)

end Rows
end Go.Proofs.YtjmmagodjpmihaaDoor
