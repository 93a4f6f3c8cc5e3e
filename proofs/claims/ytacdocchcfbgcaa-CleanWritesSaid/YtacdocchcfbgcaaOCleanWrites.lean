-- printed by wip/mp.py (the kit's print, with given functions); Lean checks it
import Derived.Test.YtacdocchcfbgcaaQx6
import Derived.Test.YtacdocchcfbgcaaQO
namespace Go.Proofs.Ytacdocchcfbgcaa.Q.CleanWrites
open Go.RowKit Go.Proofs.YtacdocchcfbgcaaW.PrintWords Go.Proofs.YtacdocchcfbgcaaW.PrintLast Go.Proofs.Ytacdocchcfbgcaa.HOpen
set_option linter.unusedVariables false
/-- THE ONE PURE STATEMENT of dolmenlaw14_CleanWrites. -/
def Pure : Prop := ∀ (a0 : Int) (a1 : Bool) (l2 : List Int), (Lit.int .i64 a0).wf = true → l2.length ≤ 9223372036854775807 → (∀ a ∈ l2, (Lit.int .i64 a).wf = true) → ∃ k, dolmenlaw14_CleanWrites.f k a0 a1 l2 = some true
end Go.Proofs.Ytacdocchcfbgcaa.Q.CleanWrites
