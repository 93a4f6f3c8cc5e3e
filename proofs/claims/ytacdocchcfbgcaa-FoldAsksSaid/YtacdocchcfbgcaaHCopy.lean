/-
  copy into a part of a row of one's own.
-/
import Derived.Test.YtacdocchcfbgcaaProg
import Derived.Test.YtacdocchcfbgcaaWMore
import Derived.Lib.SliceRun
namespace Go.Proofs.Ytacdocchcfbgcaa.HCopy
open Go.RowKit Go.Proofs.YtacdocchcfbgcaaW.PrintWords

theorem copy_at {W : World} {base : Nat} {ok : Nat → Prop} {g cap o c' : Nat} {xs ys : List Int} {A : Option Addr} {m c e : Nat} {k : IntKind} {t t' ty : TypeId} (ht : Try.prog.underlying t = some (.slice e)) (hinfo : (Try.prog.info? e).map (·.size) = some 1)
    (HO : (Kd.int k).R e W base ok (.slice (some ⟨g, 0, none⟩) xs.length cap) xs) (HR : (Kd.int k).C W A m ys) (hm : 0 < m) (ho : o + m ≤ xs.length) :
    ∃ w1, (Builtin.copy_ #[t, t'] ty #[.slice (some ⟨g, o, none⟩) (xs.length - o) c', .slice A m c]).run Try.prog W = .ok (goInt ((m : Nat) : Int)) w1 ∧
      (Kd.int k).R e w1 base ok (.slice (some ⟨g, 0, none⟩) xs.length cap) (xs.take o ++ ys ++ xs.drop (o + m)) ∧ W.grownBy w1 (some g) := by
  have hR := Kd.reads_of_C (enc := Value.int k) (d := 0) (h1 := fun _ => rfl) HR
  have hml : ys.length = m := hR.1
  have hown := Kd.own_of_R (enc := Value.int k) (h1 := fun _ => rfl) HO
  obtain ⟨ad, hA, hc⟩ := hR.2.2 hm
  rcases hown.2 with ⟨_, hx0⟩ | ⟨g', cap', cur, hv, hb, hh, hnc, hcm, hcs, htake⟩
  · omega
  cases hv
  have hcs1 : cur.size = cap := by omega
  have hkl : (encs (Value.int k) ys).length = m := by rw [encs_length, hml]
  have hsrc : ∀ j u, (encs (Value.int k) ys)[j]? = some u → W.cell? (ad.add j) = some u := by
    intro j u hu
    have hj : j < ys.length := by
      rcases Nat.lt_or_ge j ys.length with h | h
      · exact h
      · rw [List.getElem?_eq_none (by rw [encs_length]; exact h)] at hu
        cases hu
    rw [encs_get (d := 0) _ j hj] at hu
    rw [hc j (by omega), ← hu]
  have hr := run_copy_cells (P := Try.prog) W t t' ty e g o (xs.length - o) c' ad m c (encs (Value.int k) ys) ht hinfo (by rw [hkl]; show m = min m (xs.length - o); omega) hsrc
    (fun j hj => by rw [cell_of_row W g _ cur e (0, 0) hh]; simp; omega) (fun j _ => blk_frozen hh _) (by intro u hu; simp only [encs, List.mem_map] at hu; obtain ⟨q, _, rfl⟩ := hu; rfl)
  obtain ⟨cur', h3, h4, h5⟩ := setCells_row (encs (Value.int k) ys) o W cur hh (by rw [hkl]; omega)
  obtain ⟨s1, s2, s3, s4⟩ := setCells_same g (encs (Value.int k) ys) o W
  have hln : (xs.take o ++ ys ++ xs.drop (o + m)).length = xs.length := by
    rw [List.length_append, List.length_append, List.length_take, List.length_drop]
    omega
  refine ⟨_, by rw [hA, hr, hkl], ?_, ⟨s1, s2, s3, by rw [s4]; exact Nat.le_refl _, fun q _ hk => setCells_far _ _ q (fun he => hk (by rw [he]))⟩⟩
  have hrow : (W.setCells g o (encs (Value.int k) ys)).ownsRow base e 1 (.slice (some ⟨g, 0, none⟩) (xs.take o ++ ys ++ xs.drop (o + m)).length cap) (xs.take o ++ ys ++ xs.drop (o + m)).length (encs (Value.int k) (xs.take o ++ ys ++ xs.drop (o + m))) := by
    refine ⟨by rw [encs_length, Nat.mul_one], .inr ⟨g, cap, cur', rfl, hb, h3, by rw [hln]; exact hnc, hcm, by rw [h4, hcs], ?_⟩⟩
    rw [h5, hln, Nat.mul_one, encs_append, encs_append, hkl]
    have htk : cur.toList.take xs.length = encs (Value.int k) xs := by rw [← htake, Nat.mul_one]
    have hd1 : encs (Value.int k) (xs.take o) = (encs (Value.int k) xs).take o := by simp [encs, List.map_take]
    have hd2 : encs (Value.int k) (xs.drop (o + m)) = (encs (Value.int k) xs).drop (o + m) := by simp [encs, List.map_drop]
    rw [hd1, hd2, ← htk, List.take_take, Nat.min_eq_left (by omega), List.drop_take]
    have hl1 : (cur.toList.take o ++ encs (Value.int k) ys).length = o + m := by
      rw [List.length_append, hkl, List.length_take, Array.length_toList]
      omega
    rw [List.take_append, hl1, List.take_of_length_le (by rw [hl1]; omega)]
  have := Kd.R_of_own (enc := Value.int k) (h1 := fun _ => rfl) hrow HO.1
  rw [hln] at this
  exact this
/-- What is fresh may be seen. -/
theorem R_V {k : IntKind} {e : Nat} {w : World} {base base' m : Nat} {ok P : Nat → Prop} {v : Value} {xs : List Int} (h : (Kd.int k).R e w base ok v xs) (hb : m ≤ base) : Kd.V (Kd.int k) e w base' (fun k_ => P k_ ∨ m ≤ k_) v xs := by
  refine Kd.N_V (Kd.R_N (Kd.R_mono (Kd.R_tight rfl h) (fun q hq => .inr ?_)))
  exact Nat.le_trans hb (Kd.R_base h q hq.symm)
/-- A call with one slice whose length is spelled otherwise. -/
theorem calls_len {f : FuncId} {A : Option Addr} {n n' c : Nat} {w : World} {Q : Ending → World → Prop} (h : n = n') (hc : Calls Try.prog f #[.slice A n' c] w Q) : Calls Try.prog f #[.slice A n c] w Q := by subst h; exact hc
end Go.Proofs.Ytacdocchcfbgcaa.HCopy
