-- printed by wip/mp.py (the kit's print, with given functions); Lean checks it
import Derived.Test.YtacdocchcfbgcaaQx17
import Derived.Test.YtacdocchcfbgcaaQO
namespace Go.Proofs.Ytacdocchcfbgcaa.Q.CleanAsks
open Go.RowKit Go.Proofs.YtacdocchcfbgcaaW.PrintWords Go.Proofs.YtacdocchcfbgcaaW.PrintLast Go.Proofs.Ytacdocchcfbgcaa.HOpen
set_option linter.unusedVariables false
/-- THE ONE PURE STATEMENT of dolmenlaw14_CleanAsks. -/
def Pure : Prop := ∀ (l0 : List (S32)) (l1 : List Int), l0.length ≤ 9223372036854775807 → (∀ a ∈ l0, wf32 a) → l1.length ≤ 9223372036854775807 → (∀ a ∈ l1, (Lit.int .i64 a).wf = true) → ∃ k, dolmenlaw14_CleanAsks.f k l0 l1 = some true
end Go.Proofs.Ytacdocchcfbgcaa.Q.CleanAsks
