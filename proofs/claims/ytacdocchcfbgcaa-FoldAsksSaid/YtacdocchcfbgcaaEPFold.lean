/-
  What the printed functions of fold come to.
-/
import Derived.Test.YtacdocchcfbgcaaEPEntry
import Derived.Test.YtacdocchcfbgcaaEx5
import Derived.Test.YtacdocchcfbgcaaEx5
set_option linter.unusedSimpArgs false
set_option linter.unusedVariables false
namespace Go.Proofs.Ytacdocchcfbgcaa.PC
open Go.RowKit Go.Proofs.Ytacdocchcfbgcaa.Q Go.Proofs.YtacdocchcfbgcaaW.PrintWords Go.Proofs.YtacdocchcfbgcaaW.PrintLast Go.Proofs.YtacdocchcfbgcaaW.PrintMore Go.Proofs.Ytacdocchcfbgcaa.PB

theorem okE1 {e o : Int} {d : List Int} {s : ByteArray} {i : Int} (h : okE 1 e o d s i = true) : 0 ≤ o ∧ 0 < d.length ∧ o + (d.length : Int) ≤ 2000 := by
  unfold okE within at h
  simp at h
  omega
theorem okE2 {e o : Int} {d : List Int} {s : ByteArray} {i : Int} (h : okE 2 e o d s i = true) : 0 ≤ o ∧ o ≤ 2000 := by
  unfold okE within at h
  simp at h
  omega

/-! ### bytes of some length -/
def sizedL (b : List Int) (n : Nat) : List Int := b.take n ++ List.replicate (n - b.length) 0
theorem sizedL_length (b : List Int) (n : Nat) : (sizedL b n).length = n := by
  unfold sizedL
  rw [List.length_append, List.length_take, List.length_replicate]
  omega
theorem sized_f (b : List Int) (n : Nat) (hb : b.length ≤ 100000) (hn : n ≤ 100000) : fold_sized.f b (n : Int) = some (sizedL b n) := by
  unfold fold_sized.f
  have h1 : mn (b.length : Int) (n : Int) = ((min b.length n : Nat) : Int) := by unfold mn; split <;> omega
  have h2 : mx (wrap64 ((n : Int) - (b.length : Int))) 0 = ((n - b.length : Nat) : Int) := by
    rw [wrap_in (by omega) (by omega)]
    unfold mx
    split <;> omega
  rw [h1, h2, if_pos (by omega), if_pos (by omega)]
  unfold slices_Clone_byte_byte.f
  rw [Int.toNat_natCast, Int.toNat_natCast, if_pos (by rw [List.length_take]; omega), Option.bind_some, if_pos (by omega), if_pos (by rw [List.length_take]; omega)]
  unfold sizedL
  congr 2
  rw [Nat.min_comm, ← List.take_take, List.take_of_length_le (Nat.le_refl b.length)] <;> rfl

/-- What an entry makes of a file. -/
def putL (c d : List Int) (o : Nat) : List Int := c.take o ++ d ++ c.drop (o + d.length)
def nextL (b : List Int) (e : S50) : List Int :=
  if okS e = true then
    (if e.f0 = 1 then putL (sizedL b (max b.length (e.f2.toNat + e.f3.length))) e.f3 e.f2.toNat
     else if e.f0 = 2 then sizedL b e.f2.toNat else b)
  else b
theorem putL_length (c d : List Int) (o : Nat) (h : o + d.length ≤ c.length) : (putL c d o).length = c.length := by
  unfold putL
  rw [List.length_append, List.length_append, List.length_take, List.length_drop]
  omega
theorem nextL_length (b : List Int) (e : S50) (hb : b.length ≤ 100000) :
    ((nextL b e).length : Int) = if okS e = true then (if e.f0 = 1 then mx (b.length : Int) (e.f2 + (e.f3.length : Int)) else if e.f0 = 2 then e.f2 else (b.length : Int)) else (b.length : Int) := by
  unfold nextL
  by_cases h : okS e = true
  · rw [if_pos h, if_pos h]
    by_cases k1 : e.f0 = 1
    · rw [if_pos k1, if_pos k1]
      unfold okS at h
      rw [k1] at h
      obtain ⟨h0, h1, h2⟩ := okE1 h
      rw [putL_length _ _ _ (by rw [sizedL_length]; omega), sizedL_length]
      unfold mx
      split <;> omega
    · rw [if_neg k1, if_neg k1]
      by_cases k2 : e.f0 = 2
      · rw [if_pos k2, if_pos k2]
        unfold okS at h
        rw [k2] at h
        obtain ⟨h0, h1⟩ := okE2 h
        rw [sizedL_length]
        omega
      · rw [if_neg k2, if_neg k2]
  · rw [if_neg h, if_neg h]
theorem nextL_le (b : List Int) (e : S50) (M : Nat) (hM : 2000 ≤ M) (hM2 : M ≤ 100000) (hb : b.length ≤ M) : (nextL b e).length ≤ M := by
  have h := nextL_length b e (by omega)
  by_cases ho : okS e = true
  · rw [if_pos ho] at h
    by_cases k1 : e.f0 = 1
    · rw [if_pos k1] at h
      unfold okS at ho
      rw [k1] at ho
      obtain ⟨h0, h1, h2⟩ := okE1 ho
      unfold mx at h
      split at h <;> omega
    · rw [if_neg k1] at h
      by_cases k2 : e.f0 = 2
      · rw [if_pos k2] at h
        unfold okS at ho
        rw [k2] at ho
        obtain ⟨h0, h1⟩ := okE2 ho
        omega
      · rw [if_neg k2] at h; omega
  · rw [if_neg ho] at h; omega
theorem next_ev (b : List Int) (e : S50) (hb : b.length ≤ 100000) (hd : e.f3.length ≤ 9223372036854775807) :
    Ev (fun k => fold_next.f k b e.f0 e.f1 e.f2 e.f3 e.f4 e.f5) (nextL b e) := by
  unfold fold_next.f
  refine ev_bind (check_ev _ _ _ _ _ _ hd) ?_
  unfold nextL
  show Ev _ (if okE e.f0 e.f1 e.f2 e.f3 e.f4 e.f5 = true then _ else _)
  by_cases h : okE e.f0 e.f1 e.f2 e.f3 e.f4 e.f5 = true
  · rw [if_pos h, if_pos h]
    refine ev_pos rfl ?_
    by_cases k1 : e.f0 = 1
    · rw [if_pos k1, if_pos k1]
      rw [k1] at h
      obtain ⟨h0, h1, h2⟩ := okE1 h
      have hm : mx (b.length : Int) (wrap64 (e.f2 + (e.f3.length : Int))) = ((max b.length (e.f2.toNat + e.f3.length) : Nat) : Int) := by
        rw [wrap_in (by omega) (by omega)]
        unfold mx
        split <;> omega
      rw [hm]
      refine ev_bind (ev_const (sized_f b _ hb (by omega))) (ev_pos ⟨h0, h1, by rw [sizedL_length]; omega, by rw [sizedL_length]; omega⟩ (ev_some rfl))
    · rw [if_neg k1, if_neg k1]
      by_cases k2 : e.f0 = 2
      · rw [if_pos k2, if_pos k2]
        refine ev_const ?_
        rw [k2] at h
        obtain ⟨h0, h1⟩ := okE2 h
        have := sized_f b e.f2.toNat hb (by omega)
        rw [Int.toNat_of_nonneg h0] at this
        exact this
      · rw [if_neg k2, if_neg k2]
        exact ev_some rfl
  · rw [if_neg h, if_neg h]
    exact ev_neg (by simp) (ev_some rfl)
end Go.Proofs.Ytacdocchcfbgcaa.PC
