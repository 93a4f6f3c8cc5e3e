-- printed by wip/mp.py (the kit's print, with given functions); Lean checks it
import Derived.Test.YtacdocchcfbgcaaQx0
namespace Go.Proofs.Ytacdocchcfbgcaa.Q
open Go.RowKit Go.Proofs.YtacdocchcfbgcaaW.PrintWords Go.Proofs.YtacdocchcfbgcaaW.PrintLast Go.Proofs.YtacdocchcfbgcaaW.PrintMore
attribute [local go_sem] max2_int min2_int max_two min_two max_three min_three max_four min_four   -- for this text's walks alone
set_option linter.unusedVariables false
set_option linter.unusedSimpArgs false

/-! ### dolmenref9_covers: function 53, given -/
def covR (a b : S32) (nx : Bool) : Bool :=
  if a.f0 = 1 then (if b.f0 = 1 then decide (b.f2 ≤ a.f2) && decide (wrap64 (b.f2 + (b.f3.length : Int)) ≥ wrap64 (a.f2 + (a.f3.length : Int))) else if b.f0 = 2 then decide (b.f2 ≤ a.f2) else false)
  else if a.f0 = 2 then (nx && decide (b.f0 = 2) && decide (b.f2 ≤ a.f2))
  else if a.f0 = 3 ∨ a.f0 = 4 then (decide (b.f0 = 3 ∨ b.f0 = 4) && (b.f4.toList == a.f4.toList))
  else false
set_option maxHeartbeats 1000000 in
set_option maxRecDepth 100000 in
theorem cov_any (A0 : Option Addr) (c0 : Nat) (l0 : List S32) (a1 a2 : Int) (w : World) (hr0 : Kd.C k32 w A0 l0.length l0) (hc0 : l0.length ≤ c0)
    (h1 : 0 ≤ a1) (h2 : a1 < l0.length) (h3 : 0 ≤ a2) (h4 : a2 < l0.length) :
    Calls Try.prog 53 #[.slice A0 l0.length c0, .int .i64 a1, .int .i64 a2] w fun e w' => e = .returned (.bool (covR (rd_T32 l0 a1) (rd_T32 l0 a2) (a2 == wrap64 (a1 + 1)))) ∧ Below w.heap.size w w' := by
  obtain ⟨ad, A3, c3, rfl, e0, e1, e2, e3, e4, e5, _, _⟩ := at_T32 hr0 a1 h1 h2
  obtain ⟨ad', B3, d3, he, g0, g1, g2, g3, g4, g5, _, _⟩ := at_T32 (Kd.C_alloc hr0 (.cells #[.int .i64 (rd_T32 l0 a1).f0, .int .i64 (rd_T32 l0 a1).f1, .int .i64 (rd_T32 l0 a1).f2, .slice A3 (rd_T32 l0 a1).f3.length c3, .string (rd_T32 l0 a1).f4, .int .i64 (rd_T32 l0 a1).f5] 32)) a2 h3 h4
  cases he
  generalize rd_T32 l0 a1 = x at *
  generalize rd_T32 l0 a2 = y at *
  have hm : l0.length ≤ 9223372036854775807 := hr0.2.1
  clear hr0
  have b1 : (decide (0 ≤ a1)) = true := decide_eq_true h1
  have b2 : (decide (a1 < (l0.length : Int))) = true := decide_eq_true h2
  have b3 : (decide (0 ≤ a2)) = true := decide_eq_true h3
  have b4 : (decide (a2 < (l0.length : Int))) = true := decide_eq_true h4
  obtain ⟨x0, x1, x2, x3, x4, x5⟩ := x
  obtain ⟨y0, y1, y2, y3, y4, y5⟩ := y
  dsimp only at *
  obtain ⟨v, hv⟩ : ∃ v, v = covR ⟨x0, x1, x2, x3, x4, x5⟩ ⟨y0, y1, y2, y3, y4, y5⟩ (a2 == wrap64 (a1 + 1)) := ⟨_, rfl⟩
  rw [← hv]
  unfold covR at hv
  dsimp only at hv
  rw [show wrap64 (a1 + 1) = a1 + 1 from by unfold wrap64; omega] at hv
  by_cases k1 : x0 = 1
  · subst k1
    rw [if_pos rfl] at hv
    by_cases q1 : y0 = 1
    · subst q1
      rw [if_pos rfl] at hv
      cases q2 : decide (y2 ≤ x2) with
      | false =>
        rw [q2] at hv
        subst hv
        go_enter Try.func53, Try.ntmps53
        go_wp2
        go_ret
        exact ⟨by first | rfl | (simp; done) | (simp [*]; done), below_alloc (below_alloc (Below.refl _ _) _) _⟩
      | true =>
        cases q3 : decide (wrap64 (y2 + (y3.length : Int)) ≥ wrap64 (x2 + (x3.length : Int))) with
        | false =>
          rw [q2, q3] at hv
          subst hv
          go_enter Try.func53, Try.ntmps53
          go_wp2
          go_ret
          exact ⟨by first | rfl | (simp; done) | (simp [*]; done), below_alloc (below_alloc (Below.refl _ _) _) _⟩
        | true =>
          rw [q2, q3] at hv
          subst hv
          go_enter Try.func53, Try.ntmps53
          go_wp2
          go_ret
          exact ⟨by first | rfl | (simp; done) | (simp [*]; done), below_alloc (below_alloc (Below.refl _ _) _) _⟩
    · rw [if_neg q1] at hv
      have b5 : (y0 == 1) = false := by simpa using q1
      by_cases q2 : y0 = 2
      · subst q2
        rw [if_pos rfl] at hv
        clear q1
        cases q2 : decide (y2 ≤ x2) with
        | false =>
          rw [q2] at hv
          subst hv
          go_enter Try.func53, Try.ntmps53
          go_wp2
          go_ret
          exact ⟨by first | rfl | (simp; done) | (simp [*]; done), below_alloc (below_alloc (Below.refl _ _) _) _⟩
        | true =>
          rw [q2] at hv
          subst hv
          go_enter Try.func53, Try.ntmps53
          go_wp2
          go_ret
          exact ⟨by first | rfl | (simp; done) | (simp [*]; done), below_alloc (below_alloc (Below.refl _ _) _) _⟩
      · rw [if_neg q2] at hv
        have b6 : (y0 == 2) = false := by simpa using q2
        subst hv
        go_enter Try.func53, Try.ntmps53
        go_wp2
        go_ret
        exact ⟨by first | rfl | (simp; done) | (simp [*]; done), below_alloc (below_alloc (Below.refl _ _) _) _⟩
  · have b5 : (x0 == 1) = false := by simpa using k1
    rw [if_neg k1] at hv
    by_cases k2 : x0 = 2
    · subst k2
      rw [if_pos rfl] at hv
      cases q1 : (a2 == a1 + 1) with
      | false =>
        rw [q1] at hv
        subst hv
        go_enter Try.func53, Try.ntmps53
        go_wp2
        go_ret
        exact ⟨by first | rfl | (simp; done) | (simp [*]; done), below_alloc (below_alloc (Below.refl _ _) _) _⟩
      | true =>
        rw [q1] at hv
        by_cases q2 : y0 = 2
        · subst q2
          cases q3 : decide (y2 ≤ x2) with
          | false =>
            rw [q3] at hv
            subst hv
            go_enter Try.func53, Try.ntmps53
            go_wp2
            go_ret
            exact ⟨by first | rfl | (simp; done) | (simp [*]; done), below_alloc (below_alloc (Below.refl _ _) _) _⟩
          | true =>
            rw [q3] at hv
            subst hv
            go_enter Try.func53, Try.ntmps53
            go_wp2
            go_ret
            exact ⟨by first | rfl | (simp; done) | (simp [*]; done), below_alloc (below_alloc (Below.refl _ _) _) _⟩
        · have b6 : (y0 == 2) = false := by simpa using q2
          rw [decide_eq_false q2] at hv
          subst hv
          go_enter Try.func53, Try.ntmps53
          go_wp2
          go_ret
          exact ⟨by first | rfl | (simp; done) | (simp [*]; done), below_alloc (below_alloc (Below.refl _ _) _) _⟩
    · have b6 : (x0 == 2) = false := by simpa using k2
      rw [if_neg k2] at hv
      by_cases k3 : x0 = 3
      · subst k3
        rw [if_pos (.inl rfl)] at hv
        by_cases q1 : y0 = 3
        · subst q1
          rw [decide_eq_true (.inl rfl), Bool.true_and] at hv
          subst hv
          go_enter Try.func53, Try.ntmps53
          go_wp2
          go_ret
          exact ⟨by first | rfl | (simp; done) | (simp [*]; done), below_alloc (below_alloc (Below.refl _ _) _) _⟩
        · have b7 : (y0 == 3) = false := by simpa using q1
          by_cases q2 : y0 = 4
          · subst q2
            rw [decide_eq_true (.inr rfl), Bool.true_and] at hv
            subst hv
            go_enter Try.func53, Try.ntmps53
            go_wp2
            go_ret
            exact ⟨by first | rfl | (simp; done) | (simp [*]; done), below_alloc (below_alloc (Below.refl _ _) _) _⟩
          · have b8 : (y0 == 4) = false := by simpa using q2
            rw [decide_eq_false (by simp [q1, q2]), Bool.false_and] at hv
            subst hv
            go_enter Try.func53, Try.ntmps53
            go_wp2
            go_ret
            exact ⟨by first | rfl | (simp; done) | (simp [*]; done), below_alloc (below_alloc (Below.refl _ _) _) _⟩
      · have b7 : (x0 == 3) = false := by simpa using k3
        by_cases k4 : x0 = 4
        · subst k4
          rw [if_pos (.inr rfl)] at hv
          by_cases q1 : y0 = 3
          · subst q1
            rw [decide_eq_true (.inl rfl), Bool.true_and] at hv
            subst hv
            go_enter Try.func53, Try.ntmps53
            go_wp2
            go_ret
            exact ⟨by first | rfl | (simp; done) | (simp [*]; done), below_alloc (below_alloc (Below.refl _ _) _) _⟩
          · have b7 : (y0 == 3) = false := by simpa using q1
            by_cases q2 : y0 = 4
            · subst q2
              rw [decide_eq_true (.inr rfl), Bool.true_and] at hv
              subst hv
              go_enter Try.func53, Try.ntmps53
              go_wp2
              go_ret
              exact ⟨by first | rfl | (simp; done) | (simp [*]; done), below_alloc (below_alloc (Below.refl _ _) _) _⟩
            · have b8 : (y0 == 4) = false := by simpa using q2
              rw [decide_eq_false (by simp [q1, q2]), Bool.false_and] at hv
              subst hv
              go_enter Try.func53, Try.ntmps53
              go_wp2
              go_ret
              exact ⟨by first | rfl | (simp; done) | (simp [*]; done), below_alloc (below_alloc (Below.refl _ _) _) _⟩
        · have b8 : (x0 == 4) = false := by simpa using k4
          rw [if_neg (by simp [k3, k4])] at hv
          subst hv
          go_enter Try.func53, Try.ntmps53
          go_wp2
          go_ret
          exact ⟨by first | rfl | (simp; done) | (simp [*]; done), below_alloc (below_alloc (Below.refl _ _) _) _⟩
def dolmenref9_covers.f (l0 : List S32) (a1 a2 : Int) : Option Bool :=
  if 0 ≤ a1 then (if a1 < (l0.length : Int) then (if 0 ≤ a2 then (if a2 < (l0.length : Int) then some (covR (rd_T32 l0 a1) (rd_T32 l0 a2) (a2 == wrap64 (a1 + 1))) else none) else none) else none) else none
theorem dolmenref9_covers.calls (A0 : Option Addr) (c0 : Nat) (l0 : List S32) (a1 a2 : Int) (r : Bool) (w : World) (hr0 : Kd.C k32 w A0 l0.length l0) (hc0 : l0.length ≤ c0) (h : dolmenref9_covers.f l0 a1 a2 = some r) :
    Calls Try.prog 53 #[.slice A0 l0.length c0, .int .i64 a1, .int .i64 a2] w fun e w' => e = .returned (.bool r) ∧ Below w.heap.size w w' := by
  unfold dolmenref9_covers.f at h
  by_cases h1 : 0 ≤ a1
  · rw [if_pos h1] at h
    by_cases h2 : a1 < (l0.length : Int)
    · rw [if_pos h2] at h
      by_cases h3 : 0 ≤ a2
      · rw [if_pos h3] at h
        by_cases h4 : a2 < (l0.length : Int)
        · rw [if_pos h4] at h
          obtain rfl := Option.some.inj h
          exact cov_any A0 c0 l0 a1 a2 w hr0 hc0 h1 h2 h3 h4
        · rw [if_neg h4] at h; cases h
      · rw [if_neg h3] at h; cases h
    · rw [if_neg h2] at h; cases h
  · rw [if_neg h1] at h; cases h

end Go.Proofs.Ytacdocchcfbgcaa.Q
