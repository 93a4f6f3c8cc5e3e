/-
  What entries may be; indexes.
-/
import Derived.Test.YtacdocchcfbgcaaPBase
import Derived.Test.YtacdocchcfbgcaaEO
import Derived.Test.YtacdocchcfbgcaaEx4
import Derived.Test.YtacdocchcfbgcaaEx7
set_option linter.unusedSimpArgs false
set_option linter.unusedVariables false
namespace Go.Proofs.Ytacdocchcfbgcaa.PC
open Go.RowKit Go.Proofs.Ytacdocchcfbgcaa.Q Go.Proofs.YtacdocchcfbgcaaW.PrintWords Go.Proofs.YtacdocchcfbgcaaW.PrintLast Go.Proofs.Ytacdocchcfbgcaa.PB

/-! ### entries -/
def within (x a b : Int) : Bool := decide (a ≤ x) && decide (x ≤ b)
theorem within_f (x a b : Int) : entry_within.f x a b = some (within x a b) := by
  unfold entry_within.f within
  by_cases h : a ≤ x <;> simp [h]
theorem epoch_f (x : Int) : dolmenref9_Epoch.f x = some (within x 1 1099511627776) := by
  unfold dolmenref9_Epoch.f within
  by_cases h : 1 ≤ x <;> simp [h]

/-- May an entry be? -/
def okE (kind epoch off : Int) (data : List Int) (name : ByteArray) (ino : Int) : Bool :=
  within epoch 1 1099511627776 &&
    (if kind = 1 then within off 0 2000 && decide (0 < data.length) && decide ((data.length : Int) ≤ 2000 - off)
     else if kind = 2 then within off 0 2000
     else if kind = 3 then within (name.size : Int) 1 12 && within ino 1 1073741824
     else if kind = 4 then within (name.size : Int) 1 12
     else if kind = 5 then within ino 1 1073741824
     else false)

theorem check_ev (kind epoch off : Int) (data : List Int) (name : ByteArray) (ino : Int) (hd : data.length ≤ 9223372036854775807) :
    Ev (fun k => entry_Check.f k kind epoch off data name ino) (if okE kind epoch off data name ino = true then none else some 1) := by
  refine ⟨1, fun k hk => ?_⟩
  obtain ⟨m, rfl⟩ : ∃ m, k = m + 1 := ⟨k - 1, by omega⟩
  unfold entry_Check.f
  simp only [entry_Check.j0, within_f, Option.bind_some]
  unfold okE
  cases h0 : within epoch 1 1099511627776
  · simp
  · by_cases k1 : kind = 1
    · subst k1
      simp only [if_true, Bool.true_and]
      by_cases d0 : (data.length : Int) > 0
      · by_cases d1 : (data.length : Int) ≤ 2000
        · rw [if_pos d0, if_pos d1, wrap_in (by omega) (by omega)]
          by_cases d2 : off ≤ 2000 - (data.length : Int)
          · rw [if_pos d2]
            have e1 : within off 0 2000 = decide (0 ≤ off) := by unfold within; rw [show decide (off ≤ 2000) = true from decide_eq_true (by omega), Bool.and_true]
            have e2 : decide (0 < data.length) = true := decide_eq_true (by omega)
            have e3 : decide ((data.length : Int) ≤ 2000 - off) = true := decide_eq_true (by omega)
            rw [e2, e3, Bool.and_true, Bool.and_true]
            cases within off 0 2000 <;> rfl
          · rw [if_neg d2]
            have e3 : decide ((data.length : Int) ≤ 2000 - off) = false := decide_eq_false (by omega)
            rw [e3, Bool.and_false]
            rfl
        · rw [if_pos d0, if_neg d1]
          have e3 : (within off 0 2000 && decide (0 < data.length) && decide ((data.length : Int) ≤ 2000 - off)) = false := by
            rw [Bool.eq_false_iff]
            intro h
            simp [within] at h
            omega
          rw [e3]
          rfl
      · rw [if_neg d0]
        have e2 : decide (0 < data.length) = false := decide_eq_false (by omega)
        rw [e2, Bool.and_false, Bool.false_and]
        rfl
    · by_cases k2 : kind = 2
      · subst k2
        simp only [if_true, Bool.true_and, if_neg k1]
        cases within off 0 2000 <;> rfl
      · by_cases k3 : kind = 3
        · subst k3
          simp only [if_true, Bool.true_and, if_neg k1, if_neg k2]
          cases within ino 1 1073741824 <;> cases within (name.size : Int) 1 12 <;> rfl
        · by_cases k4 : kind = 4
          · subst k4
            simp only [if_true, Bool.true_and, if_neg k1, if_neg k2, if_neg k3]
            cases within (name.size : Int) 1 12 <;> rfl
          · by_cases k5 : kind = 5
            · subst k5
              simp only [if_true, Bool.true_and, if_neg k1, if_neg k2, if_neg k3, if_neg k4]
              cases within ino 1 1073741824 <;> rfl
            · simp only [if_true, Bool.true_and, if_neg k1, if_neg k2, if_neg k3, if_neg k4, if_neg k5]
              rfl

/-! ### indexes -/
theorem rdE {xs : List S50} {i : Nat} (h : i < xs.length) : rd_T50 xs (i : Int) = xs[i] := by unfold rd_T50; simp [h]
theorem rdR {xs : List S32} {i : Nat} (h : i < xs.length) : rd_T32 xs (i : Int) = xs[i] := by unfold rd_T32; simp [h]

def okS (e : S50) : Bool := okE e.f0 e.f1 e.f2 e.f3 e.f4 e.f5
def toE (e : S32) : S50 := ⟨e.f0, e.f1, e.f2, e.f3, e.f4, e.f5⟩
end Go.Proofs.Ytacdocchcfbgcaa.PC
