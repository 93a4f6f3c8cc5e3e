-- printed by wip/mp.py (the kit's print, with given functions); Lean checks it
import Derived.Test.YtacdocchcfbgcaaQx14
import Derived.Test.YtacdocchcfbgcaaQO
namespace Go.Proofs.Ytacdocchcfbgcaa.Q.CleanNames
open Go.RowKit Go.Proofs.YtacdocchcfbgcaaW.PrintWords Go.Proofs.YtacdocchcfbgcaaW.PrintLast Go.Proofs.Ytacdocchcfbgcaa.HOpen
set_option linter.unusedVariables false
/-- THE ONE PURE STATEMENT of dolmenlaw14_CleanNames. -/
def Pure : Prop := ∀ (a0 : Int) (l1 : List Int), (Lit.int .i64 a0).wf = true → l1.length ≤ 9223372036854775807 → (∀ a ∈ l1, (Lit.int .i64 a).wf = true) → ∃ k, dolmenlaw14_CleanNames.f k a0 l1 = some true
end Go.Proofs.Ytacdocchcfbgcaa.Q.CleanNames
