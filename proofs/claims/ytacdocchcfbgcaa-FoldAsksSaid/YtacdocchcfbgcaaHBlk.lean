/-
  A block that is known whole, read as a row of some kind.
-/
import Derived.Test.YtacdocchcfbgcaaProg
import Derived.Test.YtacdocchcfbgcaaWRepsOne
import Derived.Test.YtacdocchcfbgcaaWShare
import Derived.Lib.SlBytesConst
import Derived.Lib.SmallJoins
namespace Go.Proofs.Ytacdocchcfbgcaa.HBlk
open Go.RowKit Go.Proofs.YtacdocchcfbgcaaW.PrintWords

section
variable {α : Type} {d : Kd α} {w : World} {g : Nat} {cs : Array Value} {t : TypeId} {fr : Nat × Nat} {ps : List α}
theorem C_of_block (hb : w.heap[g]? = some (.cells cs t fr)) (hR : Reps (d.K w) d.sz ps cs.toList) (hm : ps.length ≤ 9223372036854775807) : Kd.C d w (some ⟨g, 0, none⟩) ps.length ps := by
  refine ⟨rfl, hm, fun _ => ⟨_, rfl, fun j p hj => ⟨(cs.toList.drop (j * d.sz)).take d.sz, ?_, hR.2 j p hj, fun i u hu => ?_⟩⟩⟩
  · exact d.K_len (hR.2 j p hj)
  · rw [List.getElem?_take] at hu
    split at hu
    · rw [List.getElem?_drop] at hu
      rw [add_plain, cell_of_row w g _ cs t fr hb]
      simpa using hu
    · cases hu
end
/-- '[]byte("..")' of a constant, in whatever new block. -/
theorem conv_const (u30 : Try.prog.underlying 30 = some (.slice 5)) (u5 : Try.prog.underlying 5 = some (.int .u8)) (w : World) (C : Array Value) (n c g : Nat) (hg : g = w.heap.size) :
    (convert 30 30 (.slice (some ⟨g, 0, none⟩) n c)).run Try.prog (w.alloc (.cells C 5)) = .ok (.slice (some ⟨g, 0, none⟩) n c) (w.alloc (.cells C 5 (C.size, C.size + 1))) :=
  Go.Joins.run_convert_bytes_const_at w _ _ C n c g hg u30 u5
end Go.Proofs.Ytacdocchcfbgcaa.HBlk
