/-
  CleanAgain, the plain law: who is needed at some epochs is needed at more; none that is needed stands ahead of what Fast tells.
-/
import Derived.Test.YtacdocchcfbgcaaOCleanAgain
import Derived.Test.YtacdocchcfbgcaaPClean
set_option linter.unusedVariables false
namespace Go.Proofs.Ytacdocchcfbgcaa.Pure
open Go.RowKit Go.Proofs.Ytacdocchcfbgcaa.Q Go.Proofs.Ytacdocchcfbgcaa.PC Go.Proofs.Ytacdocchcfbgcaa.PB Go.Proofs.YtacdocchcfbgcaaW.PrintWords Go.Proofs.YtacdocchcfbgcaaW.PrintLast

theorem again_l1 (a b : List Int) (c : Int) (i : Nat) (hi : i < a.length) (hb : b.length ≤ 9223372036854775807) (ha : a.length ≤ 9223372036854775807) (hc : c ≤ a[i]) (hn : Ev (fun k => dolmenlaw14_CleanAgain.l0 k a b c ((i + 1 : Nat) : Int)) true) :
    ∀ (d j : Nat) (met : Bool), j + d = b.length → (met = true ∨ ∃ m, ∃ h : m < b.length, j ≤ m ∧ b[m] = a[i]) → Ev (fun k => dolmenlaw14_CleanAgain.l1 k a b c (i : Int) met (j : Int)) true := by
  intro d
  induction d with
  | zero =>
    intro j met hj hm
    have hmet : met = true := by
      rcases hm with h | ⟨m, h, h2, _⟩
      · exact h
      · omega
    subst hmet
    refine ev_succ ?_
    simp only [dolmenlaw14_CleanAgain.l1]
    rw [rd_nat hi, wrap_succ hi ha]
    exact ev_neg (by omega) (ev_pos (by trivial) (ev_pos (by omega) (ev_pos (by omega) (ev_neg (by omega) hn))))
  | succ d ih =>
    intro j met hj hm
    have hlt : j < b.length := by omega
    refine ev_succ ?_
    simp only [dolmenlaw14_CleanAgain.l1]
    rw [wrap_succ hlt hb]
    refine ev_pos (by omega) ?_
    cases met with
    | true => exact ev_pos rfl (ih (j + 1) true (by omega) (.inl rfl))
    | false =>
      refine ev_neg (by simp) (ev_pos (by omega) (ev_pos (by omega) (ev_pos (by omega) ?_)))
      rw [rd_nat hi, rd_nat hlt]
      refine ih (j + 1) _ (by omega) ?_
      by_cases he : a[i] = b[j]
      · exact .inl (by simpa using he)
      · right
        rcases hm with h | ⟨m, h, h2, h3⟩
        · cases h
        · refine ⟨m, h, ?_, h3⟩
          rcases Nat.lt_or_ge j m with h4 | h4
          · omega
          · obtain rfl : j = m := by omega
            exact absurd h3.symm he

theorem again_l0 (a b : List Int) (c : Int) (hb : b.length ≤ 9223372036854775807) (ha : a.length ≤ 9223372036854775807) (hc : ∀ x ∈ a, c ≤ x) (hm : ∀ x ∈ a, x ∈ b) :
    ∀ (d i : Nat), i + d = a.length → Ev (fun k => dolmenlaw14_CleanAgain.l0 k a b c (i : Int)) true := by
  intro d
  induction d with
  | zero =>
    intro i hi
    refine ev_succ ?_
    simp only [dolmenlaw14_CleanAgain.l0]
    exact ev_neg (by omega) (ev_bind (ev_const rfl) (ev_some rfl))
  | succ d ih =>
    intro i hi
    have hlt : i < a.length := by omega
    refine ev_succ ?_
    simp only [dolmenlaw14_CleanAgain.l0]
    refine ev_pos (by omega) ?_
    refine again_l1 a b c i hlt hb ha (hc _ (List.getElem_mem hlt)) (ih (i + 1) (by omega)) b.length 0 false (by omega) (.inr ?_)
    obtain ⟨m, h, he⟩ := List.getElem_of_mem (hm _ (List.getElem_mem hlt))
    exact ⟨m, h, by omega, he⟩

theorem lv_more (e e' : List Int) (s : S64) (h : lv e s = true) : lv (e ++ e') s = true := by
  unfold lv Go.Proofs.Ytacdocchcfbgcaa.HLives.livesB at *
  rw [List.any_append]
  revert h
  cases decide (s.f1 = 0) <;> cases e.any (Go.Proofs.Ytacdocchcfbgcaa.HLives.holdsB s.f0 s.f1) <;> simp

theorem CleanAgain : Go.Proofs.Ytacdocchcfbgcaa.Q.CleanAgain.Pure := by
  intro l0 l1 l2 hl0 hw0 hl1 hw1 hl2 hw2
  refine Ev.rounds ?_
  have hawake : Ev (fun k => dolmenlaw14_CleanAgain.j0 k l0 l1 l2 true) true := by
    refine ev_succ ?_
    simp only [dolmenlaw14_CleanAgain.j0]
    exact ev_pos (by trivial) (ev_bind (ev_const rfl) (ev_some rfl))
  unfold dolmenlaw14_CleanAgain.f
  obtain ⟨b, hb, hs⟩ := small_ev l0 l1 hl0
  refine ev_bind hb ?_
  cases b with
  | false => exact ev_neg (by simp) hawake
  | true =>
    obtain ⟨n0, n1⟩ := hs rfl
    refine ev_pos rfl ?_
    by_cases h2 : (l2.length : Int) > 20
    · rw [decide_eq_true h2]
      exact hawake
    · rw [decide_eq_false h2]
      refine ev_succ ?_
      simp only [dolmenlaw14_CleanAgain.j0]
      refine ev_neg (by simp) ?_
      have hd : ∀ e ∈ l0, e.f3.length ≤ 9223372036854775807 := fun e he => (hw0 e he).2.2.2.1.1
      refine ev_bind (check_log l0 hl0 hd) ?_
      cases hc : chk 0 (l0.map toE) with
      | some j => exact ev_neg (by simp [chkAt']) (ev_bind (ev_const rfl) (ev_some rfl))
      | none =>
        refine ev_pos rfl ?_
        have hd' : ∀ e ∈ l0.map toE, e.f3.length ≤ 9223372036854775807 := by
          intro e he
          obtain ⟨x, hx, rfl⟩ := List.mem_map.1 he
          exact hd x hx
        have hn : (l0.map toE).length < 8796093022208 := by rw [List.length_map]; omega
        refine ev_bind (made l0 (by omega)) (ev_bind (Needed_ok _ l1 hn hd' hc) (ev_bind (ev_const rfl) (ev_pos (by simp; omega) (ev_bind (ev_const rfl) (ev_pos (by simp; omega) ?_)))))
        refine ev_bind (Needed_ok _ _ hn hd' hc) (ev_bind (Fast_ok _ l1 hn hd' hc) (ev_pos rfl (ev_pos rfl (ev_pos rfl ?_))))
        simp only [List.nil_append]
        have hk0 : 0 ≤ (needs l1 0 (spans (l0.map toE))).headD ((l0.map toE).length : Int) ∧ (needs l1 0 (spans (l0.map toE))).headD ((l0.map toE).length : Int) ≤ ((l0.map toE).length : Int) := by
          cases h : needs l1 0 (spans (l0.map toE)) with
          | nil => simp only [List.headD_nil]; omega
          | cons x r =>
            have hx : x ∈ needs l1 0 (spans (l0.map toE)) := by rw [h]; exact List.mem_cons_self
            have h1 := needs_ge l1 hx
            have h2 := needs_lt l1 hx
            rw [spans_length] at h2
            simp only [List.headD_cons]
            omega
        rw [List.length_map] at hk0 ⊢
        have hj1 : ∀ c : Int, c = (needs l1 0 (spans (l0.map toE))).headD (l0.length : Int) → Ev (fun k => dolmenlaw14_CleanAgain.j1 k (needs l1 0 (spans (l0.map toE))) (needs (l1 ++ l2) 0 (spans (l0.map toE))) c false) true := by
          intro c hcc
          refine ev_succ ?_
          simp only [dolmenlaw14_CleanAgain.j1]
          refine ev_neg (by simp) ?_
          have hle : ∀ e, (needs e 0 (spans (l0.map toE))).length ≤ 9223372036854775807 := by
            intro e
            have := needs_length e (spans (l0.map toE)) 0
            rw [spans_length, List.length_map] at this
            omega
          refine again_l0 _ _ c (hle _) (hle _) ?_ ?_ _ 0 (Nat.zero_add _)
          · intro x hx
            rw [hcc]
            exact needs_head l1 _ _ 0 x hx
          · intro x hx
            obtain ⟨j, hj, hxe, hv⟩ := (needs_mem l1 x _ 0).1 hx
            exact (needs_mem _ x _ 0).2 ⟨j, hj, hxe, lv_more l1 l2 _ hv⟩
        refine ev_neg (by omega) ?_
        rw [decide_eq_false (by omega)]
        exact hj1 _ rfl

end Go.Proofs.Ytacdocchcfbgcaa.Pure
