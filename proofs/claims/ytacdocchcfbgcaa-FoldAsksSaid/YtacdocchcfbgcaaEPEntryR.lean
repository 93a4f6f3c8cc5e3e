/-
  What entries may be, as the reference says.
-/
import Derived.Test.YtacdocchcfbgcaaEPEntry
import Derived.Test.YtacdocchcfbgcaaEx8
set_option linter.unusedSimpArgs false
set_option linter.unusedVariables false
namespace Go.Proofs.Ytacdocchcfbgcaa.PC
open Go.RowKit Go.Proofs.Ytacdocchcfbgcaa.Q Go.Proofs.YtacdocchcfbgcaaW.PrintWords Go.Proofs.YtacdocchcfbgcaaW.PrintLast Go.Proofs.Ytacdocchcfbgcaa.PB

theorem centry_ev (kind epoch off : Int) (data : List Int) (name : ByteArray) (ino : Int) (hd : data.length ≤ 9223372036854775807) :
    Ev (fun k => dolmenref9_CheckEntry.f k kind epoch off data name ino) (if okE kind epoch off data name ino = true then 0 else 1) := by
  refine ⟨1, fun k hk => ?_⟩
  obtain ⟨m, rfl⟩ : ∃ m, k = m + 1 := ⟨k - 1, by omega⟩
  unfold dolmenref9_CheckEntry.f
  simp only [dolmenref9_CheckEntry.j0, epoch_f, Option.bind_some]
  unfold okE
  cases h0 : within epoch 1 1099511627776
  · simp
  · by_cases k1 : kind = 1
    · subst k1
      simp only [if_true, Bool.true_and]
      by_cases d0 : off ≥ 0
      · by_cases d1 : off ≤ 2000
        · rw [if_pos d0, if_pos d1, wrap_in (by omega) (by omega)]
          have e1 : within off 0 2000 = true := by unfold within; simp; omega
          rw [e1]
          by_cases d2 : (data.length : Int) > 0
          · rw [if_pos d2]
            have e2 : decide (0 < data.length) = true := decide_eq_true (by omega)
            rw [e2]
            by_cases d3 : (data.length : Int) ≤ 2000 - off <;> simp [d3]
          · rw [if_neg d2]
            have e2 : decide (0 < data.length) = false := decide_eq_false (by omega)
            rw [e2]
            rfl
        · rw [if_pos d0, if_neg d1]
          have e1 : within off 0 2000 = false := by unfold within; simp; omega
          rw [e1]; rfl
      · rw [if_neg d0]
        have e1 : within off 0 2000 = false := by unfold within; simp; omega
        rw [e1]; rfl
    · by_cases k2 : kind = 2
      · subst k2
        simp only [if_true, Bool.true_and, if_neg k1]
        unfold within
        by_cases d0 : off ≥ 0 <;> by_cases d1 : off ≤ 2000 <;> simp [d0, d1]
      · by_cases k3 : kind = 3
        · subst k3
          simp only [if_true, Bool.true_and, if_neg k1, if_neg k2]
          unfold within
          rw [show decide (1 ≤ (name.size : Int)) = decide ((name.size : Int) > 0) from decide_eq_decide.2 (by omega)]
          by_cases d0 : (name.size : Int) > 0 <;> by_cases d1 : (name.size : Int) ≤ 12 <;> by_cases d2 : ino ≥ 1 <;> by_cases d3 : ino ≤ 1073741824 <;> simp only [d0, d1, d2, d3, if_true, if_false, decide_true, decide_false, Bool.and_true, Bool.and_false, Bool.true_and, Bool.false_and, reduceIte, ge_iff_le, Bool.false_eq_true] <;> rfl
        · by_cases k4 : kind = 4
          · subst k4
            simp only [if_true, Bool.true_and, if_neg k1, if_neg k2, if_neg k3]
            unfold within
            rw [show decide (1 ≤ (name.size : Int)) = decide ((name.size : Int) > 0) from decide_eq_decide.2 (by omega)]
            by_cases d0 : (name.size : Int) > 0 <;> by_cases d1 : (name.size : Int) ≤ 12 <;> simp only [d0, d1, if_true, if_false, decide_true, decide_false, Bool.and_true, Bool.and_false, Bool.true_and, Bool.false_and, reduceIte, Bool.false_eq_true] <;> rfl
          · have b4 : (kind == 4) = false := by simpa using k4
            by_cases k5 : kind = 5
            · subst k5
              simp only [if_true, Bool.true_and, if_neg k1, if_neg k2, if_neg k3, if_neg k4, b4]
              unfold within
              by_cases d2 : ino ≥ 1 <;> by_cases d3 : ino ≤ 1073741824 <;> simp [d2, d3]
            · simp only [if_true, Bool.true_and, if_neg k1, if_neg k2, if_neg k3, if_neg k4, if_neg k5, b4]
              rfl
end Go.Proofs.Ytacdocchcfbgcaa.PC
