-- printed by wip/mp.py (the kit's print, with given functions); Lean checks it
import Derived.Test.YtacdocchcfbgcaaFx9
import Derived.Test.YtacdocchcfbgcaaFO
namespace Go.Proofs.Ytacdocchcfbgcaa.Q.FoldSizes
open Go.RowKit Go.Proofs.YtacdocchcfbgcaaW.PrintWords Go.Proofs.YtacdocchcfbgcaaW.PrintLast Go.Proofs.Ytacdocchcfbgcaa.HOpen
set_option linter.unusedVariables false
/-- THE ONE PURE STATEMENT of dolmenlaw13_FoldSizes. -/
def Pure : Prop := ∀ (l0 : List (S32)), l0.length ≤ 9223372036854775807 → (∀ a ∈ l0, wf32 a) → ∃ k, dolmenlaw13_FoldSizes.f k l0 = some true
end Go.Proofs.Ytacdocchcfbgcaa.Q.FoldSizes
