-- printed by wip/mp.py (the kit's print, with given functions); Lean checks it
import Derived.Test.YtacdocchcfbgcaaQx0
namespace Go.Proofs.Ytacdocchcfbgcaa.Q
open Go.RowKit Go.Proofs.YtacdocchcfbgcaaW.PrintWords Go.Proofs.YtacdocchcfbgcaaW.PrintLast Go.Proofs.YtacdocchcfbgcaaW.PrintMore
attribute [local go_sem] max2_int min2_int max_two min_two max_three min_three max_four min_four   -- for this text's walks alone
set_option linter.unusedVariables false
set_option linter.unusedSimpArgs false

/-! ### dolmenref9_covers: function 53, given -/
def covR (a b : S32) (nx : Bool) : Bool :=
  if a.f0 = 1 then (if b.f0 = 1 then decide (b.f2 ≤ a.f2) && decide (wrap64 (b.f2 + (b.f3.length : Int)) ≥ wrap64 (a.f2 + (a.f3.length : Int))) else if b.f0 = 2 then decide (b.f2 ≤ a.f2) else false)
  else if a.f0 = 2 then (nx && decide (b.f0 = 2) && decide (b.f2 ≤ a.f2))
  else if a.f0 = 3 ∨ a.f0 = 4 then (decide (b.f0 = 3 ∨ b.f0 = 4) && (b.f4.toList == a.f4.toList))
  else false
set_option hygiene false in
local macro "cov_path" : tactic => `(tactic| (
  go_enter Try.func53, Try.ntmps53
  go_wp2_with fail
  go_ret
  exact ⟨by first | rfl | (simp; done) | (simp [*]; done), below_alloc (below_alloc (Below.refl _ _) _) _⟩))
set_option maxHeartbeats 1000000 in
set_option maxRecDepth 100000 in
theorem cov_any (A0 : Option Addr) (c0 : Nat) (l0 : List S32) (a1 a2 : Int) (w : World) (hr0 : Kd.C k32 w A0 l0.length l0) (hc0 : l0.length ≤ c0)
    (h1 : 0 ≤ a1) (h2 : a1 < l0.length) (h3 : 0 ≤ a2) (h4 : a2 < l0.length) :
    Calls Try.prog 53 #[.slice A0 l0.length c0, .int .i64 a1, .int .i64 a2] w fun e w' => e = .returned (.bool (covR (rd_T32 l0 a1) (rd_T32 l0 a2) (a2 == wrap64 (a1 + 1)))) ∧ Below w.heap.size w w' := by
  obtain ⟨ad, A3, c3, rfl, e0, e1, e2, e3, e4, e5, _, _⟩ := at_T32 hr0 a1 h1 h2
  obtain ⟨ad', B3, d3, he, g0, g1, g2, g3, g4, g5, _, _⟩ := at_T32 (Kd.C_alloc hr0 (.cells #[.int .i64 (rd_T32 l0 a1).f0, .int .i64 (rd_T32 l0 a1).f1, .int .i64 (rd_T32 l0 a1).f2, .slice A3 (rd_T32 l0 a1).f3.length c3, .string (rd_T32 l0 a1).f4, .int .i64 (rd_T32 l0 a1).f5] 32)) a2 h3 h4
  cases he
  generalize rd_T32 l0 a1 = x at *
  generalize rd_T32 l0 a2 = y at *
  have hm : l0.length ≤ 9223372036854775807 := hr0.2.1
  clear hr0
  have b1 : (decide (0 ≤ a1)) = true := decide_eq_true h1
  have b2 : (decide (a1 < (l0.length : Int))) = true := decide_eq_true h2
  have b3 : (decide (0 ≤ a2)) = true := decide_eq_true h3
  have b4 : (decide (a2 < (l0.length : Int))) = true := decide_eq_true h4
  obtain ⟨x0, x1, x2, x3, x4, x5⟩ := x
  obtain ⟨y0, y1, y2, y3, y4, y5⟩ := y
  dsimp only at *
  obtain ⟨v, hv⟩ : ∃ v, v = covR ⟨x0, x1, x2, x3, x4, x5⟩ ⟨y0, y1, y2, y3, y4, y5⟩ (a2 == wrap64 (a1 + 1)) := ⟨_, rfl⟩
  rw [← hv]
  unfold covR at hv
  dsimp only at hv
  rw [show wrap64 (a1 + 1) = a1 + 1 from by unfold wrap64; omega] at hv
  by_cases k1 : x0 = 1
  · subst k1
    rw [if_pos rfl] at hv
    by_cases q1 : y0 = 1
    · subst q1
      rw [if_pos rfl] at hv
      cases q2 : decide (y2 ≤ x2) with
      | false =>
        rw [q2] at hv
        subst hv
        cov_path
      | true =>
        cases q3 : decide (wrap64 (y2 + (y3.length : Int)) ≥ wrap64 (x2 + (x3.length : Int))) with
        | false =>
          rw [q2, q3] at hv
          subst hv
          cov_path
        | true =>
          rw [q2, q3] at hv
          subst hv
          cov_path
    · rw [if_neg q1] at hv
      have b5 : (y0 == 1) = false := by simpa using q1
      by_cases q2 : y0 = 2
      · subst q2
        rw [if_pos rfl] at hv
        clear q1
        cases q2 : decide (y2 ≤ x2) with
        | false =>
          rw [q2] at hv
          subst hv
          cov_path
        | true =>
          rw [q2] at hv
          subst hv
          cov_path
      · rw [if_neg q2] at hv
        have b6 : (y0 == 2) = false := by simpa using q2
        subst hv
        cov_path
  · have b5 : (x0 == 1) = false := by simpa using k1
    rw [if_neg k1] at hv
    by_cases k2 : x0 = 2
    · subst k2
      rw [if_pos rfl] at hv
      cases q1 : (a2 == a1 + 1) with
      | false =>
        rw [q1] at hv
        subst hv
        cov_path
      | true =>
        rw [q1] at hv
        by_cases q2 : y0 = 2
        · subst q2
          cases q3 : decide (y2 ≤ x2) with
          | false =>
            rw [q3] at hv
            subst hv
            cov_path
          | true =>
            rw [q3] at hv
            subst hv
            cov_path
        · have b6 : (y0 == 2) = false := by simpa using q2
          rw [decide_eq_false q2] at hv
          subst hv
          cov_path
    · have b6 : (x0 == 2) = false := by simpa using k2
      rw [if_neg k2] at hv
      by_cases k3 : x0 = 3
      · subst k3
        rw [if_pos (.inl rfl)] at hv
        by_cases q1 : y0 = 3
        · subst q1
          rw [decide_eq_true (.inl rfl), Bool.true_and] at hv
          subst hv
          cov_path
        · have b7 : (y0 == 3) = false := by simpa using q1
          by_cases q2 : y0 = 4
          · subst q2
            rw [decide_eq_true (.inr rfl), Bool.true_and] at hv
            subst hv
            cov_path
          · have b8 : (y0 == 4) = false := by simpa using q2
            rw [decide_eq_false (by simp [q1, q2]), Bool.false_and] at hv
            subst hv
            cov_path
      · have b7 : (x0 == 3) = false := by simpa using k3
        by_cases k4 : x0 = 4
        · subst k4
          rw [if_pos (.inr rfl)] at hv
          by_cases q1 : y0 = 3
          · subst q1
            rw [decide_eq_true (.inl rfl), Bool.true_and] at hv
            subst hv
            cov_path
          · have b7 : (y0 == 3) = false := by simpa using q1
            by_cases q2 : y0 = 4
            · subst q2
              rw [decide_eq_true (.inr rfl), Bool.true_and] at hv
              subst hv
              cov_path
            · have b8 : (y0 == 4) = false := by simpa using q2
              rw [decide_eq_false (by simp [q1, q2]), Bool.false_and] at hv
              subst hv
              cov_path
        · have b8 : (x0 == 4) = false := by simpa using k4
          rw [if_neg (by simp [k3, k4])] at hv
          subst hv
          cov_path
def dolmenref9_covers.f (l0 : List S32) (a1 a2 : Int) : Option Bool :=
  if 0 ≤ a1 then (if a1 < (l0.length : Int) then (if 0 ≤ a2 then (if a2 < (l0.length : Int) then some (covR (rd_T32 l0 a1) (rd_T32 l0 a2) (a2 == wrap64 (a1 + 1))) else none) else none) else none) else none
theorem dolmenref9_covers.calls (A0 : Option Addr) (c0 : Nat) (l0 : List S32) (a1 a2 : Int) (r : Bool) (w : World) (hr0 : Kd.C k32 w A0 l0.length l0) (hc0 : l0.length ≤ c0) (h : dolmenref9_covers.f l0 a1 a2 = some r) :
    Calls Try.prog 53 #[.slice A0 l0.length c0, .int .i64 a1, .int .i64 a2] w fun e w' => e = .returned (.bool r) ∧ Below w.heap.size w w' := by
  unfold dolmenref9_covers.f at h
  by_cases h1 : 0 ≤ a1
  · rw [if_pos h1] at h
    by_cases h2 : a1 < (l0.length : Int)
    · rw [if_pos h2] at h
      by_cases h3 : 0 ≤ a2
      · rw [if_pos h3] at h
        by_cases h4 : a2 < (l0.length : Int)
        · rw [if_pos h4] at h
          obtain rfl := Option.some.inj h
          exact cov_any A0 c0 l0 a1 a2 w hr0 hc0 h1 h2 h3 h4
        · rw [if_neg h4] at h; cases h
      · rw [if_neg h3] at h; cases h
    · rw [if_neg h2] at h; cases h
  · rw [if_neg h1] at h; cases h

/-! ### dolmenref9_Spans: function 34 -/
mutual
def dolmenref9_Spans.l0 : Nat → List (S32) → List (S65) → Int → Int → Option ((List (S65)))
  | 0, _, _, _, _ => none
  | k + 1, x0, x3, x8, x9 => if x9 < x8 then (if 0 ≤ x9 then (if x9 < (x0.length : Int) then (dolmenref9_Spans.l1 k x0 x3 x9 (wrap64 (x9 + 1)) x8 x9 ((rd_T32 x0 x9).f1) 0) else (none)) else (none)) else (some x3)
def dolmenref9_Spans.l1 : Nat → List (S32) → List (S65) → Int → Int → Int → Int → Int → Int → Option ((List (S65)))
  | 0, _, _, _, _, _, _, _, _ => none
  | k + 1, x0, x3, x4, x6, x8, x9, x218000, x218001 => if x6 < (x0.length : Int) then (dolmenref9_Spans.j2 k x0 x3 x4 x6 x8 x9 (x218001 == 0) x218000 x218001) else (dolmenref9_Spans.j2 k x0 x3 x4 x6 x8 x9 false x218000 x218001)
def dolmenref9_Spans.j2 : Nat → List (S32) → List (S65) → Int → Int → Int → Int → Bool → Int → Int → Option ((List (S65)))
  | 0, _, _, _, _, _, _, _, _, _ => none
  | k + 1, x0, x3, x4, x6, x8, x9, x28, x218000, x218001 => if x28 = true then ((dolmenref9_covers.f x0 x4 x6).bind fun t218 => (if t218 = true then (if 0 ≤ x6 then (if x6 < (x0.length : Int) then (dolmenref9_Spans.l1 k x0 x3 x4 (wrap64 (x6 + 1)) x8 x9 x218000 ((rd_T32 x0 x6).f1)) else (none)) else (none)) else (dolmenref9_Spans.l1 k x0 x3 x4 (wrap64 (x6 + 1)) x8 x9 x218000 x218001))) else (if x3.length < 8796093022208 then (dolmenref9_Spans.l0 k x0 (x3 ++ [(⟨x218000, x218001⟩ : S65)]) x8 (wrap64 (x9 + 1))) else (none))
end
def dolmenref9_Spans.f (k : Nat) (l0 : List (S32)) : Option ((List (S65))) := dolmenref9_Spans.l0 k l0 ([] : List (S65)) (l0.length : Int) 0
theorem dolmenref9_Spans.mono_l : ∀ k, (∀ y0 y1 y2 y3, LeO (dolmenref9_Spans.l0 k y0 y1 y2 y3) (dolmenref9_Spans.l0 (k + 1) y0 y1 y2 y3)) ∧ (∀ y0 y1 y2 y3 y4 y5 y6 y7, LeO (dolmenref9_Spans.l1 k y0 y1 y2 y3 y4 y5 y6 y7) (dolmenref9_Spans.l1 (k + 1) y0 y1 y2 y3 y4 y5 y6 y7)) ∧ (∀ y0 y1 y2 y3 y4 y5 y6 y7 y8, LeO (dolmenref9_Spans.j2 k y0 y1 y2 y3 y4 y5 y6 y7 y8) (dolmenref9_Spans.j2 (k + 1) y0 y1 y2 y3 y4 y5 y6 y7 y8))
  | 0 => ⟨fun _ _ _ _ r h => by simp [dolmenref9_Spans.l0] at h, fun _ _ _ _ _ _ _ _ r h => by simp [dolmenref9_Spans.l1] at h, fun _ _ _ _ _ _ _ _ _ r h => by simp [dolmenref9_Spans.j2] at h⟩
  | k + 1 => by
    obtain ⟨ih0, ih1, ih2⟩ := dolmenref9_Spans.mono_l k
    refine ⟨?_, ?_, ?_⟩
    · intro y0 y1 y2 y3
      unfold dolmenref9_Spans.l0
      repeat' first
      | (with_reducible exact ih0 _ _ _ _)
      | (with_reducible exact ih1 _ _ _ _ _ _ _ _)
      | (with_reducible exact ih2 _ _ _ _ _ _ _ _ _)
      | (with_reducible exact LeO.refl _)
      | (with_reducible exact LeO.none _)
      | (with_reducible refine LeO.ite ?_ ?_)
      | (with_reducible refine LeO.bind ?_ (fun _ => ?_))
      | exact ih0 _ _ _ _
      | exact ih1 _ _ _ _ _ _ _ _
      | exact ih2 _ _ _ _ _ _ _ _ _
      | exact LeO.none _
      | refine LeO.ite ?_ ?_
      | refine LeO.bind ?_ (fun _ => ?_)
    · intro y0 y1 y2 y3 y4 y5 y6 y7
      unfold dolmenref9_Spans.l1
      repeat' first
      | (with_reducible exact ih0 _ _ _ _)
      | (with_reducible exact ih1 _ _ _ _ _ _ _ _)
      | (with_reducible exact ih2 _ _ _ _ _ _ _ _ _)
      | (with_reducible exact LeO.refl _)
      | (with_reducible exact LeO.none _)
      | (with_reducible refine LeO.ite ?_ ?_)
      | (with_reducible refine LeO.bind ?_ (fun _ => ?_))
      | exact ih0 _ _ _ _
      | exact ih1 _ _ _ _ _ _ _ _
      | exact ih2 _ _ _ _ _ _ _ _ _
      | exact LeO.none _
      | refine LeO.ite ?_ ?_
      | refine LeO.bind ?_ (fun _ => ?_)
    · intro y0 y1 y2 y3 y4 y5 y6 y7 y8
      unfold dolmenref9_Spans.j2
      repeat' first
      | (with_reducible exact ih0 _ _ _ _)
      | (with_reducible exact ih1 _ _ _ _ _ _ _ _)
      | (with_reducible exact ih2 _ _ _ _ _ _ _ _ _)
      | (with_reducible exact LeO.refl _)
      | (with_reducible exact LeO.none _)
      | (with_reducible refine LeO.ite ?_ ?_)
      | (with_reducible refine LeO.bind ?_ (fun _ => ?_))
      | exact ih0 _ _ _ _
      | exact ih1 _ _ _ _ _ _ _ _
      | exact ih2 _ _ _ _ _ _ _ _ _
      | exact LeO.none _
      | refine LeO.ite ?_ ?_
      | refine LeO.bind ?_ (fun _ => ?_)
theorem dolmenref9_Spans.mono : ∀ a0 k, LeO (dolmenref9_Spans.f k a0) (dolmenref9_Spans.f (k + 1) a0) := by
  intro a0 k
  obtain ⟨ih0, ih1, ih2⟩ := dolmenref9_Spans.mono_l k
  unfold dolmenref9_Spans.f
  repeat' first
      | (with_reducible exact ih0 _ _ _ _)
      | (with_reducible exact ih1 _ _ _ _ _ _ _ _)
      | (with_reducible exact ih2 _ _ _ _ _ _ _ _ _)
      | (with_reducible exact LeO.refl _)
      | (with_reducible exact LeO.none _)
      | (with_reducible refine LeO.ite ?_ ?_)
      | (with_reducible refine LeO.bind ?_ (fun _ => ?_))
      | exact ih0 _ _ _ _
      | exact ih1 _ _ _ _ _ _ _ _
      | exact ih2 _ _ _ _ _ _ _ _ _
      | exact LeO.none _
      | refine LeO.ite ?_ ?_
      | refine LeO.bind ?_ (fun _ => ?_)
set_option maxHeartbeats 8000000 in
set_option maxRecDepth 100000 in
theorem dolmenref9_Spans.calls (k : Nat) (A0 : Option Addr) (c0 : Nat) (l0 : List (S32)) (r : List (S65)) (w : World) (hr0 : Kd.C k32 w A0 l0.length l0) (hc0 : l0.length ≤ c0) (h : dolmenref9_Spans.f k l0 = some r) :
    Calls Try.prog 34 #[.slice A0 l0.length c0] w fun e w' => ∃ v0_ : Value, e = .returned (v0_) ∧ Kd.R k65 65 w' w.heap.size (fun _ => True) v0_ r ∧ Below w.heap.size w w' := by
  have hu65 := Try.underlying65
  have HR0 := Aside0.mk hr0
  have HC0 := Aside0.mk hc0
  clear hr0 hc0
  have HB := Aside0.mk (Below.refl w.heap.size w)
  have H : (dolmenref9_Spans.l0 k l0 ([] : List (S65)) (l0.length : Int) 0) = some r := h
  clear h
  have H' := Aside0.mk H
  clear H
  go_enter Try.func34, Try.ntmps34
  go_wp2
  go_loopg [3, 9] k (fun kq v3 v9 w' => ∃ (x3_1 : List (S65)) (x9_1 : Int), v9 = .int .i64 x9_1 ∧ Aside0 (dolmenref9_Spans.l0 kq l0 x3_1 (l0.length : Int) x9_1 = some r) ∧ Aside0 (kq ≤ k) ∧ Aside0 (Kd.R k65 65 w' w.heap.size (fun _ => True) v3 x3_1) ∧ Aside0 (Below w.heap.size w w'))
  case atStart => exact ⟨(([] : List (S65))), (0), (by first | rfl | (simp; done) | (simp [*]; done)), H', ⟨Nat.le_refl _⟩, ⟨by first | exact Kd.R_nil _ _ _ _ _ | exact Kd.N_nil _ _ _ _ _ | exact Kd.V_nil _ _ _ _ _ | exact Kd.Q_nil _ _ _ _ _ | exact Kd.S_nil _ _ _ _ _⟩, ⟨by repeat (first | (with_reducible first | exact HB.out | apply below_alloc | apply pw_below_drewN | apply below_drew1) | exact HB.out)⟩⟩
  case round =>
    clear H'
    obtain ⟨x3_1, x9_1, rfl, HA, HK1, HO_3, HB⟩ := hrel
    cases gk with
    | zero => exact absurd HA.out (by simp [dolmenref9_Spans.l0])
    | succ k1 =>
      have H := HA.out
      clear HA
      simp only [dolmenref9_Spans.l0] at H
      by_cases c2 : x9_1 < (l0.length : Int)
      · rw [if_pos c2] at H
        have c2b0 : decide (x9_1 < (l0.length : Int)) = true := decide_eq_true c2
        clear c2
        by_cases c3 : 0 ≤ x9_1
        · rw [if_pos c3] at H
          have c3b0 : decide (0 ≤ x9_1) = true := decide_eq_true c3
          clear c3
          by_cases c4 : x9_1 < (l0.length : Int)
          · rw [if_pos c4] at H
            have c4b0 : decide (x9_1 < (l0.length : Int)) = true := decide_eq_true c4
            clear c4
            have H' := Aside0.mk H
            clear H
            have p216 : 0 ≤ (x9_1 : Int) := of_decide_eq_true (by first | (with_reducible assumption) | assumption)
            have q216 : x9_1 < (l0.length : Int) := of_decide_eq_true (by first | (with_reducible assumption) | assumption)
            obtain ⟨ad216, A216_3, c216_3, e216, hx216_0, hx216_1, hx216_2, hx216_3, hx216_4, hx216_5, hl216_3, hi216_3⟩ := at_T32 HR0.out x9_1 p216 q216
            cases e216
            replace hx216_0 := (HB.out.cell (World.block_lt_of_cell? w _ hx216_0)).trans hx216_0
            replace hx216_1 := (HB.out.cell (World.block_lt_of_cell? w _ hx216_1)).trans hx216_1
            replace hx216_2 := (HB.out.cell (World.block_lt_of_cell? w _ hx216_2)).trans hx216_2
            replace hx216_3 := (HB.out.cell (World.block_lt_of_cell? w _ hx216_3)).trans hx216_3
            replace hx216_4 := (HB.out.cell (World.block_lt_of_cell? w _ hx216_4)).trans hx216_4
            replace hx216_5 := (HB.out.cell (World.block_lt_of_cell? w _ hx216_5)).trans hx216_5
            have HR216_3 := Aside0.mk hi216_3
            have HC216_3 := Aside0.mk hl216_3
            clear hi216_3 hl216_3
            replace p216 := eq_true p216
            replace q216 := eq_true q216
            go_wp2_with (first | ((with_reducible refine gate_dst (N := 5) rfl ?_); refine box_event ?hg (N := 5) ?hd (cs := #[.int .i64 0, .int .i64 0]) (t := 65) ?hr ?_; (case hd => rfl); (case hg => rfl); (case hr => first | (go_simp; done) | (go_simp; rfl)); intro gb217 hg w5 hbox hb; have n0_ := Aside0.mk (Kd.R_below (Kd.R_elderB (by (with_reducible repeat (first | apply Kd.R_alloc | apply Kd.R_drewN | apply Kd.R_drew)); exact HO_3.out) gb217 (Nat.le_of_eq hg.symm)) hb); have n1_ := Aside0.mk (below_step (by repeat (first | (with_reducible first | exact HB.out | apply below_alloc | apply pw_below_drewN | apply below_drew1) | exact HB.out)) hb); have n2_ := Aside0.mk (hbox); have n3_ := Aside0.mk ((by rw [hg]; exact (below_size (by repeat (first | (with_reducible first | exact HB.out | apply below_alloc | apply pw_below_drewN | apply below_drew1) | exact HB.out))) : w.heap.size ≤ gb217)); have n4_ := Aside0.mk ((by rw [hg]; exact (below_size (by repeat (first | (with_reducible first | exact HB.out | apply below_alloc | apply pw_below_drewN | apply below_drew1) | exact HB.out))) : w.heap.size ≤ gb217)); clear HO_3; clear HB; have HO_3 := n0_; have HB := n1_; have BK217 := n2_; have GW217 := n3_; have GE217 := n4_; clear n0_ n1_ n2_ n3_ n4_; clear hb hbox hg; have hcz6_0 : w5.cell? ⟨gb217, 0, none⟩ = some (.int .i64 0) := (blk_cell BK217.out 0).trans rfl; have hcz6_1 : w5.cell? ⟨gb217, 1, none⟩ = some (.int .i64 0) := (blk_cell BK217.out 1).trans rfl; have hfz6_0 := blk_frozen BK217.out 0; have hfz6_1 := blk_frozen BK217.out 1))
            go_loopg [6] k1 (fun kq v6 w' => ∃ (x6_2 : Int) (x218001_2 : Int), v6 = .int .i64 x6_2 ∧ Aside0 (dolmenref9_Spans.l1 kq l0 x3_1 x9_1 x6_2 (l0.length : Int) x9_1 ((rd_T32 l0 x9_1).f1) x218001_2 = some r) ∧ Aside0 (kq ≤ k1) ∧ Aside0 (Kd.R k65 65 w' w.heap.size (fun k_ => k_ ≠ gb217) u3 x3_1) ∧ Aside0 (w'.heap[gb217]? = some (.cells #[.int .i64 ((rd_T32 l0 x9_1).f1), .int .i64 x218001_2] 65 (0, 0))) ∧ Aside0 (Below w.heap.size w w'))
            case atStart => exact ⟨(wrap64 (x9_1 + 1)), (0), (by first | rfl | (simp; done) | (simp [*]; done)), H', ⟨Nat.le_refl _⟩, ⟨by (with_reducible repeat (first | apply Kd.R_alloc | apply Kd.R_drewN | apply Kd.R_drew)); exact Kd.R_mono (Kd.R_far (p := ⟨gb217, 1, none⟩) (Kd.R_far (p := ⟨gb217, 0, none⟩) (Kd.R_mono HO_3.out (fun k_ hk => (⟨hk, hk.2⟩ : _ ∧ k_ ≠ gb217))) (fun _ hk => hk.2) (.int .i64 ((rd_T32 l0 x9_1).f1))) (fun _ hk => hk.2) (.int .i64 0)) (fun _ hk => hk.1.2)⟩, ⟨by (with_reducible repeat (first | refine blk_drewN ?_ _ | refine blk_drew ?_ | refine blk_alloc ?_ _)); refine blk_put (cs := #[.int .i64 ((rd_T32 l0 x9_1).f1), .int .i64 0]) ?_ 1 _ rfl; (with_reducible repeat (first | refine blk_drewN ?_ _ | refine blk_drew ?_ | refine blk_alloc ?_ _)); refine blk_put (cs := #[.int .i64 0, .int .i64 0]) ?_ 0 _ rfl; (with_reducible repeat (first | refine blk_drewN ?_ _ | refine blk_drew ?_ | refine blk_alloc ?_ _)); exact BK217.out⟩, ⟨by repeat (first | (with_reducible first | exact HB.out | apply below_alloc | apply pw_below_drewN | apply below_drew1 | refine below_set ?_ GE217.out) | exact HB.out)⟩⟩
            case round =>
              clear H'
              try clear c2
              try clear c2b0
              try clear p2
              try clear q2
              try clear hx2
              try clear c3
              try clear c3b0
              try clear c4
              try clear c4b0
              try clear p6
              try clear hcz6_0
              try clear hcz6_1
              try clear hfz6_0
              try clear hfz6_1
              try clear hx216_0
              try clear hx216_1
              try clear hx216_2
              try clear hx216_3
              try clear hx216_4
              try clear hx216_5
              try clear p216
              try clear q216
              obtain ⟨x6_2, x218001_2, rfl, HA, HK2, HO_3, BK217, HB⟩ := hrel
              cases gk with
              | zero => exact absurd HA.out (by simp [dolmenref9_Spans.l1])
              | succ k2 =>
                have H := HA.out
                clear HA
                simp only [dolmenref9_Spans.l1] at H
                have HC7 := Aside0.mk H
                clear H
                go_upto_region 7 with (fail)
                go_cut [28] (fun v28 wc => ∃ (kq : Nat) (x28_6 : Bool), v28 = .bool x28_6 ∧ Aside0 (dolmenref9_Spans.j2 kq l0 x3_1 x9_1 x6_2 (l0.length : Int) x9_1 x28_6 ((rd_T32 l0 x9_1).f1) x218001_2 = some r) ∧ Aside0 (kq ≤ k2) ∧ Aside0 (Kd.R k65 65 wc w.heap.size (fun k_ => k_ ≠ gb217) u3 x3_1) ∧ Aside0 (wc.heap[gb217]? = some (.cells #[.int .i64 ((rd_T32 l0 x9_1).f1), .int .i64 x218001_2] 65 (0, 0))) ∧ Aside0 (Below w.heap.size w wc))
                case first =>
                  have H := HC7.out
                  clear HC7
                  by_cases c8 : x6_2 < (l0.length : Int)
                  · rw [if_pos c8] at H
                    have c8b0 : decide (x6_2 < (l0.length : Int)) = true := decide_eq_true c8
                    clear c8
                    (first | rw [c8b0] | (simp only [i64_w, i32_w]; rw [c8b0]) | skip)
                    have H' := Aside0.mk H
                    clear H
                    have hcz9_0 : wr.cell? ⟨gb217, 0, none⟩ = some (.int .i64 ((rd_T32 l0 x9_1).f1)) := (blk_cell BK217.out 0).trans rfl
                    have hcz9_1 : wr.cell? ⟨gb217, 1, none⟩ = some (.int .i64 x218001_2) := (blk_cell BK217.out 1).trans rfl
                    have hfz9_0 := blk_frozen BK217.out 0
                    have hfz9_1 := blk_frozen BK217.out 1
                    go_wp2
                    go_meet
                    case rel => exact ⟨_, ((x218001_2 == 0)), (by first | rfl | (simp; done) | (simp [*]; done)), H', ⟨by have := HK1.out; have := HK2.out; first | omega | exact Nat.le_refl _⟩, ⟨by (with_reducible repeat (first | apply Kd.R_alloc | apply Kd.R_drewN | apply Kd.R_drew)); exact HO_3.out⟩, ⟨by (with_reducible repeat (first | refine blk_drewN ?_ _ | refine blk_drew ?_ | refine blk_alloc ?_ _)); exact BK217.out⟩, ⟨by repeat (first | (with_reducible first | exact HB.out | apply below_alloc | apply pw_below_drewN | apply below_drew1 | refine below_set ?_ GE217.out) | exact HB.out)⟩⟩
                  · rw [if_neg c8] at H
                    have c8b0 : decide (x6_2 < (l0.length : Int)) = false := decide_eq_false c8
                    clear c8
                    (first | rw [c8b0] | (simp only [i64_w, i32_w]; rw [c8b0]) | skip)
                    have H' := Aside0.mk H
                    clear H
                    go_wp2
                    go_meet
                    case rel => exact ⟨_, (false), (by first | rfl | (simp; done) | (simp [*]; done)), H', ⟨by have := HK1.out; have := HK2.out; first | omega | exact Nat.le_refl _⟩, ⟨by (with_reducible repeat (first | apply Kd.R_alloc | apply Kd.R_drewN | apply Kd.R_drew)); exact HO_3.out⟩, ⟨by (with_reducible repeat (first | refine blk_drewN ?_ _ | refine blk_drew ?_ | refine blk_alloc ?_ _)); exact BK217.out⟩, ⟨by repeat (first | (with_reducible first | exact HB.out | apply below_alloc | apply pw_below_drewN | apply below_drew1 | refine below_set ?_ GE217.out) | exact HB.out)⟩⟩
                case rest =>
                  clear HC7
                  try clear c2
                  try clear c2b0
                  try clear p2
                  try clear q2
                  try clear hx2
                  try clear c3
                  try clear c3b0
                  try clear c4
                  try clear c4b0
                  try clear p6
                  try clear c8
                  try clear c8b0
                  try clear hcz6_0
                  try clear hcz6_1
                  try clear hcz9_0
                  try clear hcz9_1
                  try clear hfz6_0
                  try clear hfz6_1
                  try clear hfz9_0
                  try clear hfz9_1
                  try clear hx216_0
                  try clear hx216_1
                  try clear hx216_2
                  try clear hx216_3
                  try clear hx216_4
                  try clear hx216_5
                  try clear p2
                  try clear p216
                  try clear p6
                  try clear q2
                  try clear q216
                  obtain ⟨kq, x28_6, rfl, HA, HJ6, HO_3, BK217, HB⟩ := hcut
                  cases kq with
                  | zero => exact absurd HA.out (by simp [dolmenref9_Spans.j2])
                  | succ kj6 =>
                    have H := HA.out
                    clear HA
                    simp only [dolmenref9_Spans.j2] at H
                    by_cases c10 : x28_6 = true
                    · subst c10
                      have H1 : ((dolmenref9_covers.f l0 x9_1 x6_2).bind fun t218 => (if t218 = true then (if 0 ≤ x6_2 then (if x6_2 < (l0.length : Int) then (dolmenref9_Spans.l1 kj6 l0 x3_1 x9_1 (wrap64 (x6_2 + 1)) (l0.length : Int) x9_1 ((rd_T32 l0 x9_1).f1) ((rd_T32 l0 x6_2).f1)) else (none)) else (none)) else (dolmenref9_Spans.l1 kj6 l0 x3_1 x9_1 (wrap64 (x6_2 + 1)) (l0.length : Int) x9_1 ((rd_T32 l0 x9_1).f1) x218001_2))) = some r := by rw [if_pos rfl] at H; exact H
                      clear H
                      have H := H1
                      clear H1
                      replace H := Option.bind_eq_some_iff.mp H
                      obtain ⟨t218, A110, H⟩ := H
                      replace H : (if t218 = true then (if 0 ≤ x6_2 then (if x6_2 < (l0.length : Int) then (dolmenref9_Spans.l1 kj6 l0 x3_1 x9_1 (wrap64 (x6_2 + 1)) (l0.length : Int) x9_1 ((rd_T32 l0 x9_1).f1) ((rd_T32 l0 x6_2).f1)) else (none)) else (none)) else (dolmenref9_Spans.l1 kj6 l0 x3_1 x9_1 (wrap64 (x6_2 + 1)) (l0.length : Int) x9_1 ((rd_T32 l0 x9_1).f1) x218001_2)) = some r := H
                      have A11 := Aside0.mk A110
                      clear A110
                      by_cases c12 : t218 = true
                      · subst c12
                        have H1 : (if 0 ≤ x6_2 then (if x6_2 < (l0.length : Int) then (dolmenref9_Spans.l1 kj6 l0 x3_1 x9_1 (wrap64 (x6_2 + 1)) (l0.length : Int) x9_1 ((rd_T32 l0 x9_1).f1) ((rd_T32 l0 x6_2).f1)) else (none)) else (none)) = some r := by rw [if_pos rfl] at H; exact H
                        clear H
                        have H := H1
                        clear H1
                        by_cases c13 : 0 ≤ x6_2
                        · rw [if_pos c13] at H
                          have c13b0 : decide (0 ≤ x6_2) = true := decide_eq_true c13
                          clear c13
                          by_cases c14 : x6_2 < (l0.length : Int)
                          · rw [if_pos c14] at H
                            have c14b0 : decide (x6_2 < (l0.length : Int)) = true := decide_eq_true c14
                            clear c14
                            have H' := Aside0.mk H
                            clear H
                            go_wp2_with (first | ((with_reducible refine gate_callee (f := 53) rfl ?_); refine goesL_ (some 34) rfl rfl Try.func53 (by kernel_rfl) rfl #[.slice (some ad216) l0.length c0, .int .i64 x9_1, .int .i64 x6_2] rfl (by (try simp only [List.map_toArray, List.map_cons, List.map_nil]); first | done | rfl | (simp only [List.length_drop, List.length_take]; rfl)) ?_; (with_reducible refine (dolmenref9_covers.calls _ _ l0 x9_1 x6_2 true _ ?side1 ?side2 A11.out).mono ?_); (case side1 => repeat (first | exact (Kd.C_below HR0.out HB.out) | (with_reducible refine Kd.C_alloc ?_ _) | (with_reducible refine Kd.C_drewN ?_ _) | (with_reducible refine Kd.C_drew ?_))); (case side2 => exact HC0.out); rintro e w15 ⟨rfl, hb⟩; refine ⟨_, rfl, ?_⟩; have n0_ := Aside0.mk (Kd.R_below (by (with_reducible repeat (first | apply Kd.R_alloc | apply Kd.R_drewN | apply Kd.R_drew)); exact HO_3.out) hb); have n1_ := Aside0.mk (blk_below (g := gb217) (o := .cells #[.int .i64 ((rd_T32 l0 x9_1).f1), .int .i64 x218001_2] 65 (0, 0)) (by (with_reducible repeat (first | refine blk_drewN ?_ _ | refine blk_drew ?_ | refine blk_alloc ?_ _)); exact BK217.out) hb); have n2_ := Aside0.mk (below_step (by repeat (first | (with_reducible first | exact HB.out | apply below_alloc | apply pw_below_drewN | apply below_drew1 | refine below_set ?_ GE217.out) | exact HB.out)) hb); clear HO_3; clear BK217; clear HB; have HO_3 := n0_; have BK217 := n1_; have HB := n2_; clear n0_ n1_ n2_; (try clear hb); (try clear hb2); (try clear hk); (try clear hi); have p219 : 0 ≤ (x6_2 : Int) := of_decide_eq_true (by first | (with_reducible assumption) | assumption); have q219 : x6_2 < (l0.length : Int) := of_decide_eq_true (by first | (with_reducible assumption) | assumption); obtain ⟨ad219, A219_3, c219_3, e219, hx219_0, hx219_1, hx219_2, hx219_3, hx219_4, hx219_5, hl219_3, hi219_3⟩ := at_T32 HR0.out x6_2 p219 q219; obtain rfl : ad216 = ad219 := (by injection e219); replace hx219_0 := (HB.out.cell (World.block_lt_of_cell? w _ hx219_0)).trans hx219_0; replace hx219_1 := (HB.out.cell (World.block_lt_of_cell? w _ hx219_1)).trans hx219_1; replace hx219_2 := (HB.out.cell (World.block_lt_of_cell? w _ hx219_2)).trans hx219_2; replace hx219_3 := (HB.out.cell (World.block_lt_of_cell? w _ hx219_3)).trans hx219_3; replace hx219_4 := (HB.out.cell (World.block_lt_of_cell? w _ hx219_4)).trans hx219_4; replace hx219_5 := (HB.out.cell (World.block_lt_of_cell? w _ hx219_5)).trans hx219_5; have HR219_3 := Aside0.mk hi219_3; have HC219_3 := Aside0.mk hl219_3; clear hi219_3 hl219_3; replace p219 := eq_true p219; replace q219 := eq_true q219; have hcz16_0 : w15.cell? ⟨gb217, 0, none⟩ = some (.int .i64 ((rd_T32 l0 x9_1).f1)) := (blk_cell BK217.out 0).trans rfl; have hcz16_1 : w15.cell? ⟨gb217, 1, none⟩ = some (.int .i64 x218001_2) := (blk_cell BK217.out 1).trans rfl; have hfz16_0 := blk_frozen BK217.out 0; have hfz16_1 := blk_frozen BK217.out 1))
                            go_roundg kj6
                            case measure => have := HK1.out; have := HK2.out; have := HJ6.out; omega
                            case rel => exact ⟨(wrap64 (x6_2 + 1)), ((rd_T32 l0 x6_2).f1), (by first | rfl | (simp; done) | (simp [*]; done)), H', ⟨by have := HK1.out; have := HK2.out; have := HJ6.out; omega⟩, ⟨by (with_reducible repeat (first | apply Kd.R_alloc | apply Kd.R_drewN | apply Kd.R_drew)); exact Kd.R_mono (Kd.R_far (p := ⟨gb217, 1, none⟩) (Kd.R_mono HO_3.out (fun k_ hk => (⟨hk, hk⟩ : _ ∧ k_ ≠ gb217))) (fun _ hk => hk.2) (.int .i64 ((rd_T32 l0 x6_2).f1))) (fun _ hk => hk.1)⟩, ⟨by (with_reducible repeat (first | refine blk_drewN ?_ _ | refine blk_drew ?_ | refine blk_alloc ?_ _)); refine blk_put (cs := #[.int .i64 ((rd_T32 l0 x9_1).f1), .int .i64 x218001_2]) ?_ 1 _ rfl; (with_reducible repeat (first | refine blk_drewN ?_ _ | refine blk_drew ?_ | refine blk_alloc ?_ _)); exact BK217.out⟩, ⟨by repeat (first | (with_reducible first | exact HB.out | apply below_alloc | apply pw_below_drewN | apply below_drew1 | refine below_set ?_ GE217.out) | exact HB.out)⟩⟩
                          · rw [if_neg c14] at H
                            exact absurd H (by simp)
                        · rw [if_neg c13] at H
                          exact absurd H (by simp)
                      · replace c12 := Bool.eq_false_iff.mpr c12
                        subst c12
                        have H1 : (dolmenref9_Spans.l1 kj6 l0 x3_1 x9_1 (wrap64 (x6_2 + 1)) (l0.length : Int) x9_1 ((rd_T32 l0 x9_1).f1) x218001_2) = some r := by rw [if_neg (show ¬ (false = true) by decide)] at H; exact H
                        clear H
                        have H := H1
                        clear H1
                        have H' := Aside0.mk H
                        clear H
                        go_wp2_with (first | ((with_reducible refine gate_callee (f := 53) rfl ?_); refine goesL_ (some 34) rfl rfl Try.func53 (by kernel_rfl) rfl #[.slice (some ad216) l0.length c0, .int .i64 x9_1, .int .i64 x6_2] rfl (by (try simp only [List.map_toArray, List.map_cons, List.map_nil]); first | done | rfl | (simp only [List.length_drop, List.length_take]; rfl)) ?_; (with_reducible refine (dolmenref9_covers.calls _ _ l0 x9_1 x6_2 false _ ?side1 ?side2 A11.out).mono ?_); (case side1 => repeat (first | exact (Kd.C_below HR0.out HB.out) | (with_reducible refine Kd.C_alloc ?_ _) | (with_reducible refine Kd.C_drewN ?_ _) | (with_reducible refine Kd.C_drew ?_))); (case side2 => exact HC0.out); rintro e w17 ⟨rfl, hb⟩; refine ⟨_, rfl, ?_⟩; have n0_ := Aside0.mk (Kd.R_below (by (with_reducible repeat (first | apply Kd.R_alloc | apply Kd.R_drewN | apply Kd.R_drew)); exact HO_3.out) hb); have n1_ := Aside0.mk (blk_below (g := gb217) (o := .cells #[.int .i64 ((rd_T32 l0 x9_1).f1), .int .i64 x218001_2] 65 (0, 0)) (by (with_reducible repeat (first | refine blk_drewN ?_ _ | refine blk_drew ?_ | refine blk_alloc ?_ _)); exact BK217.out) hb); have n2_ := Aside0.mk (below_step (by repeat (first | (with_reducible first | exact HB.out | apply below_alloc | apply pw_below_drewN | apply below_drew1 | refine below_set ?_ GE217.out) | exact HB.out)) hb); clear HO_3; clear BK217; clear HB; have HO_3 := n0_; have BK217 := n1_; have HB := n2_; clear n0_ n1_ n2_; (try clear hb); (try clear hb2); (try clear hk); (try clear hi)))
                        go_roundg kj6
                        case measure => have := HK1.out; have := HK2.out; have := HJ6.out; omega
                        case rel => exact ⟨(wrap64 (x6_2 + 1)), (x218001_2), (by first | rfl | (simp; done) | (simp [*]; done)), H', ⟨by have := HK1.out; have := HK2.out; have := HJ6.out; omega⟩, ⟨by (with_reducible repeat (first | apply Kd.R_alloc | apply Kd.R_drewN | apply Kd.R_drew)); exact HO_3.out⟩, ⟨by (with_reducible repeat (first | refine blk_drewN ?_ _ | refine blk_drew ?_ | refine blk_alloc ?_ _)); exact BK217.out⟩, ⟨by repeat (first | (with_reducible first | exact HB.out | apply below_alloc | apply pw_below_drewN | apply below_drew1 | refine below_set ?_ GE217.out) | exact HB.out)⟩⟩
                    · replace c10 := Bool.eq_false_iff.mpr c10
                      subst c10
                      have H1 : (if x3_1.length < 8796093022208 then (dolmenref9_Spans.l0 kj6 l0 (x3_1 ++ [(⟨((rd_T32 l0 x9_1).f1), x218001_2⟩ : S65)]) (l0.length : Int) (wrap64 (x9_1 + 1))) else (none)) = some r := by rw [if_neg (show ¬ (false = true) by decide)] at H; exact H
                      clear H
                      have H := H1
                      clear H1
                      by_cases c18 : x3_1.length < 8796093022208
                      · rw [if_pos c18] at H
                        have LMc18 := Aside0.mk c18
                        clear c18
                        obtain ⟨y220, hy220⟩ : ∃ y_ : List (S65), y_ = (x3_1 ++ [(⟨((rd_T32 l0 x9_1).f1), x218001_2⟩ : S65)]) := ⟨_, rfl⟩
                        replace H : (dolmenref9_Spans.l0 kj6 l0 y220 (l0.length : Int) (wrap64 (x9_1 + 1))) = some r := by first | (rw [hy220]; with_reducible exact H) | (have H2_ := (Option.bind_some _ _).symm.trans H; rw [hy220]; with_reducible exact H2_) | (have H2_ := (Option.bind_some _ _).symm.trans H; with_reducible exact H2_) | with_reducible exact H | (rw [hy220]; exact H) | exact H
                        have Ny220 := Aside0.mk hy220
                        clear hy220
                        have H' := Aside0.mk H
                        clear H
                        have hcz19_0 : wc.cell? ⟨gb217, 0, none⟩ = some (.int .i64 ((rd_T32 l0 x9_1).f1)) := (blk_cell BK217.out 0).trans rfl
                        have hcz19_1 : wc.cell? ⟨gb217, 1, none⟩ = some (.int .i64 x218001_2) := (blk_cell BK217.out 1).trans rfl
                        have hfz19_0 := blk_frozen BK217.out 0
                        have hfz19_1 := blk_frozen BK217.out 1
                        go_wp2_with (first | ((with_reducible refine gate_builtin (b := .append) (xs := #[.tmp 41, .tmp 43]) rfl ?_); at_builtin; refine Kd.R_append k65 (w0 := w) w.heap.size rfl (.tmp 41) (.tmp 43) 60 65 (.agg #[(.int .i64 0), (.int .i64 0)]) 16 rfl Try.underlying60 info65 rfl (by decide) (by omega) u3 x3_1 (⟨((rd_T32 l0 x9_1).f1), x218001_2⟩ : S65) [.int .i64 ((rd_T32 l0 x9_1).f1), .int .i64 x218001_2] (fun k_ => k_ ≠ gb217) (fun _ => False) rfl rfl ?aP (fun _ hk => hk.elim) ?aF ?aO ?aB ?aS ?aL ?_; (case aP => exact k65_mkM _ _ _ (⟨((rd_T32 l0 x9_1).f1), x218001_2⟩ : S65)); (case aB => exact (by repeat (first | (with_reducible first | exact HB.out | apply below_alloc | apply pw_below_drewN | apply below_drew1 | refine below_set ?_ GE217.out) | exact HB.out))); (case aF => exact (fun k_ hk => Kd.freshB (g := gb217) (o := .cells #[.int .i64 ((rd_T32 l0 x9_1).f1), .int .i64 x218001_2] 65 (0, 0)) (by (with_reducible repeat (first | refine blk_drewN ?_ _ | refine blk_drew ?_ | refine blk_alloc ?_ _)); exact BK217.out) k_ hk)); (case aO => exact (by (with_reducible repeat (first | apply Kd.R_alloc | apply Kd.R_drewN | apply Kd.R_drew)); exact HO_3.out)); (case aS => exact (below_size (by repeat (first | (with_reducible first | exact HB.out | apply below_alloc | apply pw_below_drewN | apply below_drew1 | refine below_set ?_ GE217.out) | exact HB.out)))); (case aL => have := LMc18.out; omega); intro v221 w20 ho hb hg hat; rw [← Ny220.out] at ho; have n0_ := Aside0.mk (blk_grown (g := gb217) (o := .cells #[.int .i64 ((rd_T32 l0 x9_1).f1), .int .i64 x218001_2] 65 (0, 0)) (by (with_reducible repeat (first | refine blk_drewN ?_ _ | refine blk_drew ?_ | refine blk_alloc ?_ _)); exact BK217.out) hg (Kd.R_away HO_3.out (fun _ hk => hk))); have n1_ := Aside0.mk (hb); have n2_ := Aside0.mk (ho); clear BK217; clear HB; clear HO_3; have BK217 := n0_; have HB := n1_; have HO222 := n2_; clear n0_ n1_ n2_; clear ho hb hg hat))
                        go_roundg kj6
                        case measure => have := HK1.out; have := HK2.out; have := HJ6.out; omega
                        case rel => exact ⟨(y220), (wrap64 (x9_1 + 1)), (by first | rfl | (simp; done) | (simp [*]; done)), H', ⟨by have := HK1.out; have := HK2.out; have := HJ6.out; omega⟩, ⟨by (with_reducible repeat (first | apply Kd.R_alloc | apply Kd.R_drewN | apply Kd.R_drew)); exact Kd.R_mono HO222.out (fun _ hk => trivial)⟩, ⟨by repeat (first | (with_reducible first | exact HB.out | apply below_alloc | apply pw_below_drewN | apply below_drew1 | refine below_set ?_ GE217.out) | exact HB.out)⟩⟩
                      · rw [if_neg c18] at H
                        exact absurd H (by simp)
          · rw [if_neg c4] at H
            exact absurd H (by simp)
        · rw [if_neg c3] at H
          exact absurd H (by simp)
      · rw [if_neg c2] at H
        have c2b0 : decide (x9_1 < (l0.length : Int)) = false := decide_eq_false c2
        clear c2
        obtain rfl := Option.some.inj H
        go_wp2
        go_ret
        exact ⟨_, by first | rfl | (simp [errW_none, errW_some] <;> rfl) | (simp [*, errW_none, errW_some] <;> rfl), by (with_reducible repeat (first | apply Kd.R_alloc | apply Kd.R_drewN | apply Kd.R_drew)); exact HO_3.out, by repeat (first | (with_reducible first | exact HB.out | apply below_alloc | apply pw_below_drewN | apply below_drew1) | exact HB.out)⟩

end Go.Proofs.Ytacdocchcfbgcaa.Q
