-- printed by wip/mp.py (the kit's print, with given functions); Lean checks it
import Derived.Test.YtacdocchcfbgcaaEx0
import Derived.Test.YtacdocchcfbgcaaHOpen
namespace Go.Proofs.Ytacdocchcfbgcaa.Q
open Go.RowKit Go.Proofs.YtacdocchcfbgcaaW.PrintWords Go.Proofs.YtacdocchcfbgcaaW.PrintLast Go.Proofs.Ytacdocchcfbgcaa.HOpen
set_option linter.unusedVariables false
def wf32 (x : S32) : Prop := (Lit.int .i64 x.f0).wf = true ∧ (Lit.int .i64 x.f1).wf = true ∧ (Lit.int .i64 x.f2).wf = true ∧ (x.f3.length ≤ 9223372036854775807 ∧ ∀ a ∈ x.f3, (Lit.int .u8 a).wf = true) ∧ x.f4.size ≤ maxLen ∧ (Lit.int .i64 x.f5).wf = true
theorem o32 : Opens Try.prog 32 k32 wf32 :=
  opens_named rfl (opens_wf (fun _ h => h) (opens_struct (ts := [3, 3, 3, 30, 9, 3]) (fun c => (⟨c.1, c.2.1, c.2.2.1, c.2.2.2.1, c.2.2.2.2.1, c.2.2.2.2.2⟩ : S32)) Try.underlying32 (by kernel_rfl) (by kernel_rfl) (by kernel_rfl) (by kernel_rfl) (fun _ => rfl) (opensL_cons (opens_int Try.underlying3 (by kernel_rfl)) (opensL_cons (opens_int Try.underlying3 (by kernel_rfl)) (opensL_cons (opens_int Try.underlying3 (by kernel_rfl)) (opensL_cons (opens_slice Try.underlying30 (by kernel_rfl) (opens_int Try.underlying5 (by kernel_rfl))) (opensL_cons (opens_string Try.underlying9 (by kernel_rfl)) (opensL_one (opens_int Try.underlying3 (by kernel_rfl))))))))))
def wf50 (x : S50) : Prop := (Lit.int .i64 x.f0).wf = true ∧ (Lit.int .i64 x.f1).wf = true ∧ (Lit.int .i64 x.f2).wf = true ∧ (x.f3.length ≤ 9223372036854775807 ∧ ∀ a ∈ x.f3, (Lit.int .u8 a).wf = true) ∧ x.f4.size ≤ maxLen ∧ (Lit.int .i64 x.f5).wf = true
theorem o50 : Opens Try.prog 50 k50 wf50 :=
  opens_named rfl (opens_wf (fun _ h => h) (opens_struct (ts := [3, 3, 3, 30, 9, 3]) (fun c => (⟨c.1, c.2.1, c.2.2.1, c.2.2.2.1, c.2.2.2.2.1, c.2.2.2.2.2⟩ : S50)) Try.underlying50 (by kernel_rfl) (by kernel_rfl) (by kernel_rfl) (by kernel_rfl) (fun _ => rfl) (opensL_cons (opens_int Try.underlying3 (by kernel_rfl)) (opensL_cons (opens_int Try.underlying3 (by kernel_rfl)) (opensL_cons (opens_int Try.underlying3 (by kernel_rfl)) (opensL_cons (opens_slice Try.underlying30 (by kernel_rfl) (opens_int Try.underlying5 (by kernel_rfl))) (opensL_cons (opens_string Try.underlying9 (by kernel_rfl)) (opensL_one (opens_int Try.underlying3 (by kernel_rfl))))))))))
end Go.Proofs.Ytacdocchcfbgcaa.Q
