-- printed by wip/mp.py (the kit's print, with given functions); Lean checks it
import Derived.Test.YtacdocchcfbgcaaEx13
import Derived.Test.YtacdocchcfbgcaaEO
namespace Go.Proofs.Ytacdocchcfbgcaa.Q.FoldAsks
open Go.RowKit Go.Proofs.YtacdocchcfbgcaaW.PrintWords Go.Proofs.YtacdocchcfbgcaaW.PrintLast Go.Proofs.Ytacdocchcfbgcaa.HOpen
set_option linter.unusedVariables false
/-- THE ONE PURE STATEMENT of dolmenlaw13_FoldAsks. -/
def Pure : Prop := ∀ (l0 : List (S32)) (a1 : Int), l0.length ≤ 9223372036854775807 → (∀ a ∈ l0, wf32 a) → (Lit.int .i64 a1).wf = true → ∃ k, dolmenlaw13_FoldAsks.f k l0 a1 = some true
end Go.Proofs.Ytacdocchcfbgcaa.Q.FoldAsks
