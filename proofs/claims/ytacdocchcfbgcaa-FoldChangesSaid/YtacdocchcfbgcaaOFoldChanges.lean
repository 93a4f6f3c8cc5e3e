-- printed by wip/mp.py (the kit's print, with given functions); Lean checks it
import Derived.Test.YtacdocchcfbgcaaGx8
import Derived.Test.YtacdocchcfbgcaaGO
namespace Go.Proofs.Ytacdocchcfbgcaa.Q.FoldChanges
open Go.RowKit Go.Proofs.YtacdocchcfbgcaaW.PrintWords Go.Proofs.YtacdocchcfbgcaaW.PrintLast Go.Proofs.Ytacdocchcfbgcaa.HOpen
set_option linter.unusedVariables false
/-- THE ONE PURE STATEMENT of dolmenlaw13_FoldChanges. -/
def Pure : Prop := ∀ (l0 : List Int) (l1 : List Int) (a2 : Int), l0.length ≤ 9223372036854775807 → (∀ a ∈ l0, (Lit.int .u8 a).wf = true) → l1.length ≤ 9223372036854775807 → (∀ a ∈ l1, (Lit.int .u8 a).wf = true) → (Lit.int .i64 a2).wf = true → ∃ k, dolmenlaw13_FoldChanges.f k l0 l1 a2 = some true
end Go.Proofs.Ytacdocchcfbgcaa.Q.FoldChanges
