/-
  FoldSizes, the plain law: behind each entry a file is as great as it was, or as what was written reaches, or as was said.
-/
import Derived.Test.YtacdocchcfbgcaaOFoldSizes
import Derived.Test.YtacdocchcfbgcaaFPFold
set_option linter.unusedVariables false
set_option linter.unusedSimpArgs false
namespace Go.Proofs.Ytacdocchcfbgcaa.Pure
open Go.RowKit Go.Proofs.Ytacdocchcfbgcaa.Q Go.Proofs.Ytacdocchcfbgcaa.PC Go.Proofs.Ytacdocchcfbgcaa.PB Go.Proofs.YtacdocchcfbgcaaW.PrintWords Go.Proofs.YtacdocchcfbgcaaW.PrintLast Go.Proofs.YtacdocchcfbgcaaW.PrintMore

theorem fs_sum (l : List Int) (hl : l.length ≤ 9223372036854775807) :
    ∀ (d i : Nat) (n : Int), i + d = l.length → ∃ t, Ev (fun k => dolmenalike_Sum.l0 k n l (i : Int)) t := by
  intro d
  induction d with
  | zero =>
    intro i n hi
    refine ⟨n, ev_succ ?_⟩
    simp only [dolmenalike_Sum.l0]
    exact ev_neg (by omega) (ev_some rfl)
  | succ d ih =>
    intro i n hi
    have hlt : i < l.length := by omega
    by_cases h1 : n > 1099511627776
    · refine ⟨1099511627776, ev_succ ?_⟩
      simp only [dolmenalike_Sum.l0]
      exact ev_pos (by omega) (ev_pos h1 (ev_some rfl))
    · by_cases h2 : (rd l (i : Int)) > (wrap64 (1099511627776 - n))
      · refine ⟨1099511627776, ev_succ ?_⟩
        simp only [dolmenalike_Sum.l0]
        exact ev_pos (by omega) (ev_neg h1 (ev_pos (by omega) (ev_pos h2 (ev_some rfl))))
      · obtain ⟨t, ht⟩ := ih (i + 1) (wrap64 (n + rd l (i : Int))) (by omega)
        refine ⟨t, ev_succ ?_⟩
        simp only [dolmenalike_Sum.l0]
        rw [wrap_succ hlt hl]
        exact ev_pos (by omega) (ev_neg h1 (ev_pos (by omega) (ev_neg h2 ht)))
theorem fs_small_any (l : List S32) (hl : l.length ≤ 9223372036854775807) :
    ∀ (d i : Nat) (n : Int), i + d = l.length → ∃ b, Ev (fun k => dolmenlaw13_small.l0 k l n (i : Int)) b ∧ (b = true → l.length ≤ 50) := by
  intro d
  induction d with
  | zero =>
    intro i n hi
    refine ⟨decide ((l.length : Int) ≤ 50), ev_succ ?_, fun hb => by have := of_decide_eq_true hb; omega⟩
    simp only [dolmenlaw13_small.l0]
    exact ev_neg (by omega) (ev_some rfl)
  | succ d ih =>
    intro i n hi
    have hlt : i < l.length := by omega
    obtain ⟨t, ht⟩ := fs_sum [(((rd_T32 l (i : Int)).f3).length : Int), (((rd_T32 l (i : Int)).f4).size : Int), 1] (by simp) 3 0 n rfl
    have ht' : Ev (fun k => dolmenalike_Sum.f k n [(((rd_T32 l (i : Int)).f3).length : Int), (((rd_T32 l (i : Int)).f4).size : Int), 1]) t := by simpa [dolmenalike_Sum.f] using ht
    by_cases h : t > 5000
    · refine ⟨false, ev_succ ?_, fun hb => by cases hb⟩
      simp only [dolmenlaw13_small.l0]
      exact ev_pos (by omega) (ev_pos (by omega) (ev_bind ht' (ev_pos h (ev_some rfl))))
    · obtain ⟨b, hb, hb2⟩ := ih (i + 1) t (by omega)
      refine ⟨b, ev_succ ?_, hb2⟩
      simp only [dolmenlaw13_small.l0]
      rw [wrap_succ hlt hl]
      exact ev_pos (by omega) (ev_pos (by omega) (ev_bind ht' (ev_neg h hb)))
theorem fs_small (l : List S32) (hl : l.length ≤ 9223372036854775807) : ∃ b, Ev (fun k => dolmenlaw13_small.f k l) b ∧ (b = true → l.length ≤ 50) := by
  obtain ⟨b, hb, h2⟩ := fs_small_any l hl l.length 0 0 (by omega)
  exact ⟨b, by simpa [dolmenlaw13_small.f] using hb, h2⟩
theorem fs_made_ev (l : List S32) (hl : l.length < 1954687338268) :
    ∀ (d i : Nat) (acc : List S50), i + d = l.length → acc.length = i → Ev (fun k => dolmenlaw13_made.l0 k l acc (i : Int)) (acc ++ (l.drop i).map toE) := by
  intro d
  induction d with
  | zero =>
    intro i acc hi ha
    refine ev_succ ?_
    simp only [dolmenlaw13_made.l0]
    refine ev_neg (by omega) (ev_some ?_)
    rw [List.drop_eq_nil_of_le (by omega)]
    simp
  | succ d ih =>
    intro i acc hi ha
    have hlt : i < l.length := by omega
    refine ev_succ ?_
    simp only [dolmenlaw13_made.l0]
    refine ev_pos (by omega) (ev_pos (by omega) (ev_pos (by omega) ?_))
    rw [rdR hlt, wrap_succ hlt (by omega), List.drop_eq_getElem_cons hlt, List.map_cons]
    have := ih (i + 1) (acc ++ [toE l[i]]) (by omega) (by simp [ha])
    rw [List.append_assoc] at this
    exact this
theorem fs_made (l : List S32) (hl : l.length < 1954687338268) : Ev (fun k => dolmenlaw13_made.f k l) (l.map toE) := by
  have := fs_made_ev l hl l.length 0 [] (by omega) rfl
  simpa [dolmenlaw13_made.f] using this

/-- The sizes behind each entry. -/
def szs (b : List Int) : List S50 → List Int
  | [] => []
  | e :: r => ((nextL b e).length : Int) :: szs (nextL b e) r
theorem szs_length : ∀ (l : List S50) (b : List Int), (szs b l).length = l.length
  | [], b => rfl
  | e :: r, b => by simp [szs, szs_length r]
theorem sizes_ev (l : List S50) (hl : l.length ≤ 1000) (hd : ∀ e ∈ l, e.f3.length ≤ 9223372036854775807) :
    ∀ (d i : Nat) (acc b : List Int), i + d = l.length → acc.length = i → b.length ≤ 2000 → Ev (fun k => fold_Sizes.l0 k acc b l (l.length : Int) (i : Int)) (acc ++ szs b (l.drop i)) := by
  intro d
  induction d with
  | zero =>
    intro i acc b hi ha hb
    refine ev_succ ?_
    simp only [fold_Sizes.l0]
    refine ev_neg (by omega) (ev_some ?_)
    rw [List.drop_eq_nil_of_le (by omega)]
    simp [szs]
  | succ d ih =>
    intro i acc b hi ha hb
    have hlt : i < l.length := by omega
    refine ev_succ ?_
    simp only [fold_Sizes.l0]
    refine ev_pos (by omega) (ev_pos (by omega) (ev_pos (by omega) ?_))
    rw [rdE hlt, wrap_succ hlt (by omega), List.drop_eq_getElem_cons hlt]
    refine ev_bind (next_ev b l[i] (by omega) (hd _ (List.getElem_mem hlt))) (ev_pos (by omega) ?_)
    have := ih (i + 1) (acc ++ [((nextL b l[i]).length : Int)]) (nextL b l[i]) (by omega) (by simp [ha]) (nextL_le b l[i] 2000 (by omega) (by omega) hb)
    rw [List.append_assoc] at this
    exact this
theorem rd_mid (a : List Int) (x : Int) (r : List Int) (i : Nat) (h : a.length = i) : rd (a ++ x :: r) (i : Int) = x := by
  subst h
  unfold rd
  simp
theorem fs_l0 (l : List S32) (hl : l.length ≤ 1000) (hd : ∀ e ∈ l, e.f3.length ≤ 9223372036854775807) (s : List Int) :
    ∀ (d i : Nat) (b p : List Int), i + d = l.length → b.length ≤ 2000 → p.length = i → s = p ++ szs b ((l.drop i).map toE) → Ev (fun k => dolmenlaw13_FoldSizes.l0 k l s (b.length : Int) (i : Int)) true := by
  intro d
  induction d with
  | zero =>
    intro i b p hi hb hp hs
    refine ev_succ ?_
    simp only [dolmenlaw13_FoldSizes.l0]
    exact ev_neg (by omega) (ev_bind (ev_const rfl) (ev_some rfl))
  | succ d ih =>
    intro i b p hi hb hp hs
    have hlt : i < l.length := by omega
    rw [List.drop_eq_getElem_cons hlt, List.map_cons] at hs
    have hs' : s = p ++ ((nextL b (toE l[i])).length : Int) :: szs (nextL b (toE l[i])) ((l.drop (i + 1)).map toE) := hs
    have hrd : rd s (i : Int) = ((nextL b (toE l[i])).length : Int) := by rw [hs']; exact rd_mid _ _ _ _ hp
    have hsl : s.length = l.length := by
      rw [hs', List.length_append, List.length_cons, szs_length, List.length_map, List.length_drop]
      omega
    have hn := nextL_length b (toE l[i]) (by omega)
    have hle := nextL_le b (toE l[i]) 2000 (by omega) (by omega) hb
    have next := ih (i + 1) (nextL b (toE l[i])) (p ++ [((nextL b (toE l[i])).length : Int)]) (by omega) hle (by simp [hp]) (by rw [hs', List.append_assoc]; rfl)
    refine ev_succ ?_
    simp only [dolmenlaw13_FoldSizes.l0]
    rw [hrd, rdR hlt, wrap_succ hlt (by omega)]
    refine ev_pos (by omega) (ev_pos (by omega) (ev_bind (centry_ev _ _ _ _ _ _ (hd _ (List.getElem_mem hlt))) ?_))
    have hok : okS (toE l[i]) = okE l[i].f0 l[i].f1 l[i].f2 l[i].f3 l[i].f4 l[i].f5 := rfl
    rw [hok] at hn
    by_cases h : okE l[i].f0 l[i].f1 l[i].f2 l[i].f3 l[i].f4 l[i].f5 = true
    · rw [if_pos h] at hn ⊢
      refine ev_pos rfl ?_
      by_cases k1 : l[i].f0 = 1
      · have hn1 : ((nextL b (toE l[i])).length : Int) = mx (b.length : Int) (l[i].f2 + (l[i].f3.length : Int)) := by rw [hn, if_pos (show (toE l[i]).f0 = 1 from k1)]; rfl
        have h1 := h
        rw [k1] at h1
        obtain ⟨o0, o1, o2⟩ := okE1 h1
        rw [wrap_in (x := l[i].f2 + (l[i].f3.length : Int)) (by omega) (by omega), ← hn1]
        exact ev_pos k1 (ev_pos (by omega) (ev_pos rfl next))
      · refine ev_neg k1 ?_
        rw [if_neg (show ¬ (toE l[i]).f0 = 1 from k1)] at hn
        by_cases k2 : l[i].f0 = 2
        · rw [if_pos (show (toE l[i]).f0 = 2 from k2)] at hn
          have hn2 : l[i].f2 = ((nextL b (toE l[i])).length : Int) := hn.symm
          rw [hn2]
          exact ev_pos k2 (ev_pos (by omega) (ev_pos rfl next))
        · rw [if_neg (show ¬ (toE l[i]).f0 = 2 from k2)] at hn
          rw [← hn]
          exact ev_neg k2 (ev_pos (by omega) (ev_pos rfl next))
    · rw [if_neg h] at hn ⊢
      rw [← hn]
      exact ev_neg (by decide) (ev_pos (by omega) (ev_pos rfl next))

theorem FoldSizes : Go.Proofs.Ytacdocchcfbgcaa.Q.FoldSizes.Pure := by
  intro l0 hl0 hw0
  refine Ev.rounds ?_
  unfold dolmenlaw13_FoldSizes.f
  obtain ⟨b, hb, hs⟩ := fs_small l0 hl0
  refine ev_bind hb ?_
  cases b with
  | false => exact ev_neg (by simp) (ev_bind (ev_const rfl) (ev_some rfl))
  | true =>
    have n0 := hs rfl
    have hd : ∀ e ∈ l0, e.f3.length ≤ 9223372036854775807 := fun e he => (hw0 e he).2.2.2.1.1
    have hd' : ∀ e ∈ l0.map toE, e.f3.length ≤ 9223372036854775807 := by
      intro e he
      obtain ⟨x, hx, rfl⟩ := List.mem_map.1 he
      exact hd x hx
    refine ev_pos rfl (ev_bind (fs_made l0 (by omega)) ?_)
    have h1 := sizes_ev (l0.map toE) (by rw [List.length_map]; omega) hd' (l0.map toE).length 0 [] [] (by omega) rfl (by simp)
    have h2 : Ev (fun k => fold_Sizes.f k (l0.map toE)) (szs [] (l0.map toE)) := by simpa [fold_Sizes.f] using h1
    refine ev_bind h2 (ev_pos (by rw [szs_length, List.length_map]) ?_)
    exact fs_l0 l0 (by omega) hd _ l0.length 0 [] [] (by omega) (by simp) rfl (by simp)
end Go.Proofs.Ytacdocchcfbgcaa.Pure
