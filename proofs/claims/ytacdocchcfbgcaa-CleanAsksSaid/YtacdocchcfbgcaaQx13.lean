-- printed by wip/mp.py (the kit's print, with given functions); Lean checks it
import Derived.Test.YtacdocchcfbgcaaQx0
import Derived.Test.YtacdocchcfbgcaaQx12
namespace Go.Proofs.Ytacdocchcfbgcaa.Q
open Go.RowKit Go.Proofs.YtacdocchcfbgcaaW.PrintWords Go.Proofs.YtacdocchcfbgcaaW.PrintLast Go.Proofs.YtacdocchcfbgcaaW.PrintMore
attribute [local go_sem] max2_int min2_int max_two min_two max_three min_three max_four min_four   -- for this text's walks alone
set_option linter.unusedVariables false
set_option linter.unusedSimpArgs false

/-! ### dolmenref9_Spans: function 34 -/
mutual
def dolmenref9_Spans.l0 : Nat → List (S32) → List (S65) → Int → Int → Option ((List (S65)))
  | 0, _, _, _, _ => none
  | k + 1, x0, x3, x8, x9 => if x9 < x8 then (if 0 ≤ x9 then (if x9 < (x0.length : Int) then (dolmenref9_Spans.l1 k x0 x3 x9 (wrap64 (x9 + 1)) x8 x9 ((rd_T32 x0 x9).f1) 0) else (none)) else (none)) else (some x3)
def dolmenref9_Spans.l1 : Nat → List (S32) → List (S65) → Int → Int → Int → Int → Int → Int → Option ((List (S65)))
  | 0, _, _, _, _, _, _, _, _ => none
  | k + 1, x0, x3, x4, x6, x8, x9, x167000, x167001 => if x6 < (x0.length : Int) then (dolmenref9_Spans.j2 k x0 x3 x4 x6 x8 x9 (x167001 == 0) x167000 x167001) else (dolmenref9_Spans.j2 k x0 x3 x4 x6 x8 x9 false x167000 x167001)
def dolmenref9_Spans.j2 : Nat → List (S32) → List (S65) → Int → Int → Int → Int → Bool → Int → Int → Option ((List (S65)))
  | 0, _, _, _, _, _, _, _, _, _ => none
  | k + 1, x0, x3, x4, x6, x8, x9, x28, x167000, x167001 => if x28 = true then ((dolmenref9_covers.f x0 x4 x6).bind fun t167 => (if t167 = true then (if 0 ≤ x6 then (if x6 < (x0.length : Int) then (dolmenref9_Spans.l1 k x0 x3 x4 (wrap64 (x6 + 1)) x8 x9 x167000 ((rd_T32 x0 x6).f1)) else (none)) else (none)) else (dolmenref9_Spans.l1 k x0 x3 x4 (wrap64 (x6 + 1)) x8 x9 x167000 x167001))) else (if x3.length < 8796093022208 then (dolmenref9_Spans.l0 k x0 (x3 ++ [(⟨x167000, x167001⟩ : S65)]) x8 (wrap64 (x9 + 1))) else (none))
end
def dolmenref9_Spans.f (k : Nat) (l0 : List (S32)) : Option ((List (S65))) := dolmenref9_Spans.l0 k l0 ([] : List (S65)) (l0.length : Int) 0
theorem dolmenref9_Spans.mono_l : ∀ k, (∀ y0 y1 y2 y3, LeO (dolmenref9_Spans.l0 k y0 y1 y2 y3) (dolmenref9_Spans.l0 (k + 1) y0 y1 y2 y3)) ∧ (∀ y0 y1 y2 y3 y4 y5 y6 y7, LeO (dolmenref9_Spans.l1 k y0 y1 y2 y3 y4 y5 y6 y7) (dolmenref9_Spans.l1 (k + 1) y0 y1 y2 y3 y4 y5 y6 y7)) ∧ (∀ y0 y1 y2 y3 y4 y5 y6 y7 y8, LeO (dolmenref9_Spans.j2 k y0 y1 y2 y3 y4 y5 y6 y7 y8) (dolmenref9_Spans.j2 (k + 1) y0 y1 y2 y3 y4 y5 y6 y7 y8))
  | 0 => ⟨fun _ _ _ _ r h => by simp [dolmenref9_Spans.l0] at h, fun _ _ _ _ _ _ _ _ r h => by simp [dolmenref9_Spans.l1] at h, fun _ _ _ _ _ _ _ _ _ r h => by simp [dolmenref9_Spans.j2] at h⟩
  | k + 1 => by
    obtain ⟨ih0, ih1, ih2⟩ := dolmenref9_Spans.mono_l k
    refine ⟨?_, ?_, ?_⟩
    · intro y0 y1 y2 y3
      unfold dolmenref9_Spans.l0
      repeat' first
      | (with_reducible exact ih0 _ _ _ _)
      | (with_reducible exact ih1 _ _ _ _ _ _ _ _)
      | (with_reducible exact ih2 _ _ _ _ _ _ _ _ _)
      | (with_reducible exact LeO.refl _)
      | (with_reducible exact LeO.none _)
      | (with_reducible refine LeO.ite ?_ ?_)
      | (with_reducible refine LeO.bind ?_ (fun _ => ?_))
      | exact ih0 _ _ _ _
      | exact ih1 _ _ _ _ _ _ _ _
      | exact ih2 _ _ _ _ _ _ _ _ _
      | exact LeO.none _
      | refine LeO.ite ?_ ?_
      | refine LeO.bind ?_ (fun _ => ?_)
    · intro y0 y1 y2 y3 y4 y5 y6 y7
      unfold dolmenref9_Spans.l1
      repeat' first
      | (with_reducible exact ih0 _ _ _ _)
      | (with_reducible exact ih1 _ _ _ _ _ _ _ _)
      | (with_reducible exact ih2 _ _ _ _ _ _ _ _ _)
      | (with_reducible exact LeO.refl _)
      | (with_reducible exact LeO.none _)
      | (with_reducible refine LeO.ite ?_ ?_)
      | (with_reducible refine LeO.bind ?_ (fun _ => ?_))
      | exact ih0 _ _ _ _
      | exact ih1 _ _ _ _ _ _ _ _
      | exact ih2 _ _ _ _ _ _ _ _ _
      | exact LeO.none _
      | refine LeO.ite ?_ ?_
      | refine LeO.bind ?_ (fun _ => ?_)
    · intro y0 y1 y2 y3 y4 y5 y6 y7 y8
      unfold dolmenref9_Spans.j2
      repeat' first
      | (with_reducible exact ih0 _ _ _ _)
      | (with_reducible exact ih1 _ _ _ _ _ _ _ _)
      | (with_reducible exact ih2 _ _ _ _ _ _ _ _ _)
      | (with_reducible exact LeO.refl _)
      | (with_reducible exact LeO.none _)
      | (with_reducible refine LeO.ite ?_ ?_)
      | (with_reducible refine LeO.bind ?_ (fun _ => ?_))
      | exact ih0 _ _ _ _
      | exact ih1 _ _ _ _ _ _ _ _
      | exact ih2 _ _ _ _ _ _ _ _ _
      | exact LeO.none _
      | refine LeO.ite ?_ ?_
      | refine LeO.bind ?_ (fun _ => ?_)
theorem dolmenref9_Spans.mono : ∀ a0 k, LeO (dolmenref9_Spans.f k a0) (dolmenref9_Spans.f (k + 1) a0) := by
  intro a0 k
  obtain ⟨ih0, ih1, ih2⟩ := dolmenref9_Spans.mono_l k
  unfold dolmenref9_Spans.f
  repeat' first
      | (with_reducible exact ih0 _ _ _ _)
      | (with_reducible exact ih1 _ _ _ _ _ _ _ _)
      | (with_reducible exact ih2 _ _ _ _ _ _ _ _ _)
      | (with_reducible exact LeO.refl _)
      | (with_reducible exact LeO.none _)
      | (with_reducible refine LeO.ite ?_ ?_)
      | (with_reducible refine LeO.bind ?_ (fun _ => ?_))
      | exact ih0 _ _ _ _
      | exact ih1 _ _ _ _ _ _ _ _
      | exact ih2 _ _ _ _ _ _ _ _ _
      | exact LeO.none _
      | refine LeO.ite ?_ ?_
      | refine LeO.bind ?_ (fun _ => ?_)
set_option maxHeartbeats 8000000 in
set_option maxRecDepth 100000 in
theorem dolmenref9_Spans.calls (k : Nat) (A0 : Option Addr) (c0 : Nat) (l0 : List (S32)) (r : List (S65)) (w : World) (hr0 : Kd.C k32 w A0 l0.length l0) (hc0 : l0.length ≤ c0) (h : dolmenref9_Spans.f k l0 = some r) :
    Calls Try.prog 34 #[.slice A0 l0.length c0] w fun e w' => ∃ v0_ : Value, e = .returned (v0_) ∧ Kd.R k65 65 w' w.heap.size (fun _ => True) v0_ r ∧ Below w.heap.size w w' := by
  have hu65 := Try.underlying65
  have HR0 := Aside0.mk hr0
  have HC0 := Aside0.mk hc0
  clear hr0 hc0
  have HB := Aside0.mk (Below.refl w.heap.size w)
  have H : (dolmenref9_Spans.l0 k l0 ([] : List (S65)) (l0.length : Int) 0) = some r := h
  clear h
  have H' := Aside0.mk H
  clear H
  go_enter Try.func34, Try.ntmps34
  go_wp2
  go_loopg [3, 9] k (fun kq v3 v9 w' => ∃ (x3_1 : List (S65)) (x9_1 : Int), v9 = .int .i64 x9_1 ∧ Aside0 (dolmenref9_Spans.l0 kq l0 x3_1 (l0.length : Int) x9_1 = some r) ∧ Aside0 (kq ≤ k) ∧ Aside0 (Kd.R k65 65 w' w.heap.size (fun _ => True) v3 x3_1) ∧ Aside0 (Below w.heap.size w w'))
  case atStart => exact ⟨(([] : List (S65))), (0), (by first | rfl | (simp; done) | (simp [*]; done)), H', ⟨Nat.le_refl _⟩, ⟨by first | exact Kd.R_nil _ _ _ _ _ | exact Kd.N_nil _ _ _ _ _ | exact Kd.V_nil _ _ _ _ _ | exact Kd.Q_nil _ _ _ _ _ | exact Kd.S_nil _ _ _ _ _⟩, ⟨by repeat (first | (with_reducible first | exact HB.out | apply below_alloc | apply pw_below_drewN | apply below_drew1) | exact HB.out)⟩⟩
  case round =>
    clear H'
    obtain ⟨x3_1, x9_1, rfl, HA, HK1, HO_3, HB⟩ := hrel
    cases gk with
    | zero => exact absurd HA.out (by simp [dolmenref9_Spans.l0])
    | succ k1 =>
      have H := HA.out
      clear HA
      simp only [dolmenref9_Spans.l0] at H
      by_cases c2 : x9_1 < (l0.length : Int)
      · rw [if_pos c2] at H
        have c2b0 : decide (x9_1 < (l0.length : Int)) = true := decide_eq_true c2
        clear c2
        by_cases c3 : 0 ≤ x9_1
        · rw [if_pos c3] at H
          have c3b0 : decide (0 ≤ x9_1) = true := decide_eq_true c3
          clear c3
          by_cases c4 : x9_1 < (l0.length : Int)
          · rw [if_pos c4] at H
            have c4b0 : decide (x9_1 < (l0.length : Int)) = true := decide_eq_true c4
            clear c4
            have H' := Aside0.mk H
            clear H
            have p165 : 0 ≤ (x9_1 : Int) := of_decide_eq_true (by first | (with_reducible assumption) | assumption)
            have q165 : x9_1 < (l0.length : Int) := of_decide_eq_true (by first | (with_reducible assumption) | assumption)
            obtain ⟨ad165, A165_3, c165_3, e165, hx165_0, hx165_1, hx165_2, hx165_3, hx165_4, hx165_5, hl165_3, hi165_3⟩ := at_T32 HR0.out x9_1 p165 q165
            cases e165
            replace hx165_0 := (HB.out.cell (World.block_lt_of_cell? w _ hx165_0)).trans hx165_0
            replace hx165_1 := (HB.out.cell (World.block_lt_of_cell? w _ hx165_1)).trans hx165_1
            replace hx165_2 := (HB.out.cell (World.block_lt_of_cell? w _ hx165_2)).trans hx165_2
            replace hx165_3 := (HB.out.cell (World.block_lt_of_cell? w _ hx165_3)).trans hx165_3
            replace hx165_4 := (HB.out.cell (World.block_lt_of_cell? w _ hx165_4)).trans hx165_4
            replace hx165_5 := (HB.out.cell (World.block_lt_of_cell? w _ hx165_5)).trans hx165_5
            have HR165_3 := Aside0.mk hi165_3
            have HC165_3 := Aside0.mk hl165_3
            clear hi165_3 hl165_3
            replace p165 := eq_true p165
            replace q165 := eq_true q165
            go_wp2_with (first | ((with_reducible refine gate_dst (N := 5) rfl ?_); refine box_event ?hg (N := 5) ?hd (cs := #[.int .i64 0, .int .i64 0]) (t := 65) ?hr ?_; (case hd => rfl); (case hg => rfl); (case hr => first | (go_simp; done) | (go_simp; rfl)); intro gb166 hg w5 hbox hb; have n0_ := Aside0.mk (Kd.R_below (Kd.R_elderB (by (with_reducible repeat (first | apply Kd.R_alloc | apply Kd.R_drewN | apply Kd.R_drew)); exact HO_3.out) gb166 (Nat.le_of_eq hg.symm)) hb); have n1_ := Aside0.mk (below_step (by repeat (first | (with_reducible first | exact HB.out | apply below_alloc | apply pw_below_drewN | apply below_drew1) | exact HB.out)) hb); have n2_ := Aside0.mk (hbox); have n3_ := Aside0.mk ((by rw [hg]; exact (below_size (by repeat (first | (with_reducible first | exact HB.out | apply below_alloc | apply pw_below_drewN | apply below_drew1) | exact HB.out))) : w.heap.size ≤ gb166)); have n4_ := Aside0.mk ((by rw [hg]; exact (below_size (by repeat (first | (with_reducible first | exact HB.out | apply below_alloc | apply pw_below_drewN | apply below_drew1) | exact HB.out))) : w.heap.size ≤ gb166)); clear HO_3; clear HB; have HO_3 := n0_; have HB := n1_; have BK166 := n2_; have GW166 := n3_; have GE166 := n4_; clear n0_ n1_ n2_ n3_ n4_; clear hb hbox hg; have hcz6_0 : w5.cell? ⟨gb166, 0, none⟩ = some (.int .i64 0) := (blk_cell BK166.out 0).trans rfl; have hcz6_1 : w5.cell? ⟨gb166, 1, none⟩ = some (.int .i64 0) := (blk_cell BK166.out 1).trans rfl; have hfz6_0 := blk_frozen BK166.out 0; have hfz6_1 := blk_frozen BK166.out 1))
            go_loopg [6] k1 (fun kq v6 w' => ∃ (x6_2 : Int) (x167001_2 : Int), v6 = .int .i64 x6_2 ∧ Aside0 (dolmenref9_Spans.l1 kq l0 x3_1 x9_1 x6_2 (l0.length : Int) x9_1 ((rd_T32 l0 x9_1).f1) x167001_2 = some r) ∧ Aside0 (kq ≤ k1) ∧ Aside0 (Kd.R k65 65 w' w.heap.size (fun k_ => k_ ≠ gb166) u3 x3_1) ∧ Aside0 (w'.heap[gb166]? = some (.cells #[.int .i64 ((rd_T32 l0 x9_1).f1), .int .i64 x167001_2] 65 (0, 0))) ∧ Aside0 (Below w.heap.size w w'))
            case atStart => exact ⟨(wrap64 (x9_1 + 1)), (0), (by first | rfl | (simp; done) | (simp [*]; done)), H', ⟨Nat.le_refl _⟩, ⟨by (with_reducible repeat (first | apply Kd.R_alloc | apply Kd.R_drewN | apply Kd.R_drew)); exact Kd.R_mono (Kd.R_far (p := ⟨gb166, 1, none⟩) (Kd.R_far (p := ⟨gb166, 0, none⟩) (Kd.R_mono HO_3.out (fun k_ hk => (⟨hk, hk.2⟩ : _ ∧ k_ ≠ gb166))) (fun _ hk => hk.2) (.int .i64 ((rd_T32 l0 x9_1).f1))) (fun _ hk => hk.2) (.int .i64 0)) (fun _ hk => hk.1.2)⟩, ⟨by (with_reducible repeat (first | refine blk_drewN ?_ _ | refine blk_drew ?_ | refine blk_alloc ?_ _)); refine blk_put (cs := #[.int .i64 ((rd_T32 l0 x9_1).f1), .int .i64 0]) ?_ 1 _ rfl; (with_reducible repeat (first | refine blk_drewN ?_ _ | refine blk_drew ?_ | refine blk_alloc ?_ _)); refine blk_put (cs := #[.int .i64 0, .int .i64 0]) ?_ 0 _ rfl; (with_reducible repeat (first | refine blk_drewN ?_ _ | refine blk_drew ?_ | refine blk_alloc ?_ _)); exact BK166.out⟩, ⟨by repeat (first | (with_reducible first | exact HB.out | apply below_alloc | apply pw_below_drewN | apply below_drew1 | refine below_set ?_ GE166.out) | exact HB.out)⟩⟩
            case round =>
              clear H'
              try clear c1
              try clear p1
              try clear q1
              try clear hx1
              try clear c2
              try clear c2b0
              try clear p2
              try clear c3
              try clear c3b0
              try clear c4
              try clear c4b0
              try clear p6
              try clear hcz6_0
              try clear hcz6_1
              try clear hfz6_0
              try clear hfz6_1
              try clear hx165_0
              try clear hx165_1
              try clear hx165_2
              try clear hx165_3
              try clear hx165_4
              try clear hx165_5
              try clear p165
              try clear q165
              obtain ⟨x6_2, x167001_2, rfl, HA, HK2, HO_3, BK166, HB⟩ := hrel
              cases gk with
              | zero => exact absurd HA.out (by simp [dolmenref9_Spans.l1])
              | succ k2 =>
                have H := HA.out
                clear HA
                simp only [dolmenref9_Spans.l1] at H
                have HC7 := Aside0.mk H
                clear H
                go_upto_region 7 with (fail)
                go_cut [28] (fun v28 wc => ∃ (kq : Nat) (x28_6 : Bool), v28 = .bool x28_6 ∧ Aside0 (dolmenref9_Spans.j2 kq l0 x3_1 x9_1 x6_2 (l0.length : Int) x9_1 x28_6 ((rd_T32 l0 x9_1).f1) x167001_2 = some r) ∧ Aside0 (kq ≤ k2) ∧ Aside0 (Kd.R k65 65 wc w.heap.size (fun k_ => k_ ≠ gb166) u3 x3_1) ∧ Aside0 (wc.heap[gb166]? = some (.cells #[.int .i64 ((rd_T32 l0 x9_1).f1), .int .i64 x167001_2] 65 (0, 0))) ∧ Aside0 (Below w.heap.size w wc))
                case first =>
                  have H := HC7.out
                  clear HC7
                  by_cases c8 : x6_2 < (l0.length : Int)
                  · rw [if_pos c8] at H
                    have c8b0 : decide (x6_2 < (l0.length : Int)) = true := decide_eq_true c8
                    clear c8
                    (first | rw [c8b0] | (simp only [i64_w, i32_w]; rw [c8b0]) | skip)
                    have H' := Aside0.mk H
                    clear H
                    have hcz9_0 : wr.cell? ⟨gb166, 0, none⟩ = some (.int .i64 ((rd_T32 l0 x9_1).f1)) := (blk_cell BK166.out 0).trans rfl
                    have hcz9_1 : wr.cell? ⟨gb166, 1, none⟩ = some (.int .i64 x167001_2) := (blk_cell BK166.out 1).trans rfl
                    have hfz9_0 := blk_frozen BK166.out 0
                    have hfz9_1 := blk_frozen BK166.out 1
                    go_wp2
                    go_meet
                    case rel => exact ⟨_, ((x167001_2 == 0)), (by first | rfl | (simp; done) | (simp [*]; done)), H', ⟨by have := HK1.out; have := HK2.out; first | omega | exact Nat.le_refl _⟩, ⟨by (with_reducible repeat (first | apply Kd.R_alloc | apply Kd.R_drewN | apply Kd.R_drew)); exact HO_3.out⟩, ⟨by (with_reducible repeat (first | refine blk_drewN ?_ _ | refine blk_drew ?_ | refine blk_alloc ?_ _)); exact BK166.out⟩, ⟨by repeat (first | (with_reducible first | exact HB.out | apply below_alloc | apply pw_below_drewN | apply below_drew1 | refine below_set ?_ GE166.out) | exact HB.out)⟩⟩
                  · rw [if_neg c8] at H
                    have c8b0 : decide (x6_2 < (l0.length : Int)) = false := decide_eq_false c8
                    clear c8
                    (first | rw [c8b0] | (simp only [i64_w, i32_w]; rw [c8b0]) | skip)
                    have H' := Aside0.mk H
                    clear H
                    go_wp2
                    go_meet
                    case rel => exact ⟨_, (false), (by first | rfl | (simp; done) | (simp [*]; done)), H', ⟨by have := HK1.out; have := HK2.out; first | omega | exact Nat.le_refl _⟩, ⟨by (with_reducible repeat (first | apply Kd.R_alloc | apply Kd.R_drewN | apply Kd.R_drew)); exact HO_3.out⟩, ⟨by (with_reducible repeat (first | refine blk_drewN ?_ _ | refine blk_drew ?_ | refine blk_alloc ?_ _)); exact BK166.out⟩, ⟨by repeat (first | (with_reducible first | exact HB.out | apply below_alloc | apply pw_below_drewN | apply below_drew1 | refine below_set ?_ GE166.out) | exact HB.out)⟩⟩
                case rest =>
                  clear HC7
                  try clear c1
                  try clear p1
                  try clear q1
                  try clear hx1
                  try clear c2
                  try clear c2b0
                  try clear p2
                  try clear c3
                  try clear c3b0
                  try clear c4
                  try clear c4b0
                  try clear p6
                  try clear c8
                  try clear c8b0
                  try clear hcz6_0
                  try clear hcz6_1
                  try clear hcz9_0
                  try clear hcz9_1
                  try clear hfz6_0
                  try clear hfz6_1
                  try clear hfz9_0
                  try clear hfz9_1
                  try clear hx165_0
                  try clear hx165_1
                  try clear hx165_2
                  try clear hx165_3
                  try clear hx165_4
                  try clear hx165_5
                  try clear p1
                  try clear p165
                  try clear p2
                  try clear p6
                  try clear q1
                  try clear q165
                  obtain ⟨kq, x28_6, rfl, HA, HJ6, HO_3, BK166, HB⟩ := hcut
                  cases kq with
                  | zero => exact absurd HA.out (by simp [dolmenref9_Spans.j2])
                  | succ kj6 =>
                    have H := HA.out
                    clear HA
                    simp only [dolmenref9_Spans.j2] at H
                    by_cases c10 : x28_6 = true
                    · subst c10
                      have H1 : ((dolmenref9_covers.f l0 x9_1 x6_2).bind fun t167 => (if t167 = true then (if 0 ≤ x6_2 then (if x6_2 < (l0.length : Int) then (dolmenref9_Spans.l1 kj6 l0 x3_1 x9_1 (wrap64 (x6_2 + 1)) (l0.length : Int) x9_1 ((rd_T32 l0 x9_1).f1) ((rd_T32 l0 x6_2).f1)) else (none)) else (none)) else (dolmenref9_Spans.l1 kj6 l0 x3_1 x9_1 (wrap64 (x6_2 + 1)) (l0.length : Int) x9_1 ((rd_T32 l0 x9_1).f1) x167001_2))) = some r := by rw [if_pos rfl] at H; exact H
                      clear H
                      have H := H1
                      clear H1
                      replace H := Option.bind_eq_some_iff.mp H
                      obtain ⟨t167, A110, H⟩ := H
                      replace H : (if t167 = true then (if 0 ≤ x6_2 then (if x6_2 < (l0.length : Int) then (dolmenref9_Spans.l1 kj6 l0 x3_1 x9_1 (wrap64 (x6_2 + 1)) (l0.length : Int) x9_1 ((rd_T32 l0 x9_1).f1) ((rd_T32 l0 x6_2).f1)) else (none)) else (none)) else (dolmenref9_Spans.l1 kj6 l0 x3_1 x9_1 (wrap64 (x6_2 + 1)) (l0.length : Int) x9_1 ((rd_T32 l0 x9_1).f1) x167001_2)) = some r := H
                      have A11 := Aside0.mk A110
                      clear A110
                      by_cases c12 : t167 = true
                      · subst c12
                        have H1 : (if 0 ≤ x6_2 then (if x6_2 < (l0.length : Int) then (dolmenref9_Spans.l1 kj6 l0 x3_1 x9_1 (wrap64 (x6_2 + 1)) (l0.length : Int) x9_1 ((rd_T32 l0 x9_1).f1) ((rd_T32 l0 x6_2).f1)) else (none)) else (none)) = some r := by rw [if_pos rfl] at H; exact H
                        clear H
                        have H := H1
                        clear H1
                        by_cases c13 : 0 ≤ x6_2
                        · rw [if_pos c13] at H
                          have c13b0 : decide (0 ≤ x6_2) = true := decide_eq_true c13
                          clear c13
                          by_cases c14 : x6_2 < (l0.length : Int)
                          · rw [if_pos c14] at H
                            have c14b0 : decide (x6_2 < (l0.length : Int)) = true := decide_eq_true c14
                            clear c14
                            have H' := Aside0.mk H
                            clear H
                            go_wp2_with (first | ((with_reducible refine gate_callee (f := 53) rfl ?_); refine goesL_ (some 34) rfl rfl Try.func53 (by kernel_rfl) rfl #[.slice (some ad165) l0.length c0, .int .i64 x9_1, .int .i64 x6_2] rfl (by (try simp only [List.map_toArray, List.map_cons, List.map_nil]); first | done | rfl | (simp only [List.length_drop, List.length_take]; rfl)) ?_; (with_reducible refine (dolmenref9_covers.calls _ _ l0 x9_1 x6_2 true _ ?side1 ?side2 A11.out).mono ?_); (case side1 => repeat (first | exact (Kd.C_below HR0.out HB.out) | (with_reducible refine Kd.C_alloc ?_ _) | (with_reducible refine Kd.C_drewN ?_ _) | (with_reducible refine Kd.C_drew ?_))); (case side2 => exact HC0.out); rintro e w15 ⟨rfl, hb⟩; refine ⟨_, rfl, ?_⟩; have n0_ := Aside0.mk (Kd.R_below (by (with_reducible repeat (first | apply Kd.R_alloc | apply Kd.R_drewN | apply Kd.R_drew)); exact HO_3.out) hb); have n1_ := Aside0.mk (blk_below (g := gb166) (o := .cells #[.int .i64 ((rd_T32 l0 x9_1).f1), .int .i64 x167001_2] 65 (0, 0)) (by (with_reducible repeat (first | refine blk_drewN ?_ _ | refine blk_drew ?_ | refine blk_alloc ?_ _)); exact BK166.out) hb); have n2_ := Aside0.mk (below_step (by repeat (first | (with_reducible first | exact HB.out | apply below_alloc | apply pw_below_drewN | apply below_drew1 | refine below_set ?_ GE166.out) | exact HB.out)) hb); clear HO_3; clear BK166; clear HB; have HO_3 := n0_; have BK166 := n1_; have HB := n2_; clear n0_ n1_ n2_; (try clear hb); (try clear hb2); (try clear hk); (try clear hi); have p168 : 0 ≤ (x6_2 : Int) := of_decide_eq_true (by first | (with_reducible assumption) | assumption); have q168 : x6_2 < (l0.length : Int) := of_decide_eq_true (by first | (with_reducible assumption) | assumption); obtain ⟨ad168, A168_3, c168_3, e168, hx168_0, hx168_1, hx168_2, hx168_3, hx168_4, hx168_5, hl168_3, hi168_3⟩ := at_T32 HR0.out x6_2 p168 q168; obtain rfl : ad165 = ad168 := (by injection e168); replace hx168_0 := (HB.out.cell (World.block_lt_of_cell? w _ hx168_0)).trans hx168_0; replace hx168_1 := (HB.out.cell (World.block_lt_of_cell? w _ hx168_1)).trans hx168_1; replace hx168_2 := (HB.out.cell (World.block_lt_of_cell? w _ hx168_2)).trans hx168_2; replace hx168_3 := (HB.out.cell (World.block_lt_of_cell? w _ hx168_3)).trans hx168_3; replace hx168_4 := (HB.out.cell (World.block_lt_of_cell? w _ hx168_4)).trans hx168_4; replace hx168_5 := (HB.out.cell (World.block_lt_of_cell? w _ hx168_5)).trans hx168_5; have HR168_3 := Aside0.mk hi168_3; have HC168_3 := Aside0.mk hl168_3; clear hi168_3 hl168_3; replace p168 := eq_true p168; replace q168 := eq_true q168; have hcz16_0 : w15.cell? ⟨gb166, 0, none⟩ = some (.int .i64 ((rd_T32 l0 x9_1).f1)) := (blk_cell BK166.out 0).trans rfl; have hcz16_1 : w15.cell? ⟨gb166, 1, none⟩ = some (.int .i64 x167001_2) := (blk_cell BK166.out 1).trans rfl; have hfz16_0 := blk_frozen BK166.out 0; have hfz16_1 := blk_frozen BK166.out 1))
                            go_roundg kj6
                            case measure => have := HK1.out; have := HK2.out; have := HJ6.out; omega
                            case rel => exact ⟨(wrap64 (x6_2 + 1)), ((rd_T32 l0 x6_2).f1), (by first | rfl | (simp; done) | (simp [*]; done)), H', ⟨by have := HK1.out; have := HK2.out; have := HJ6.out; omega⟩, ⟨by (with_reducible repeat (first | apply Kd.R_alloc | apply Kd.R_drewN | apply Kd.R_drew)); exact Kd.R_mono (Kd.R_far (p := ⟨gb166, 1, none⟩) (Kd.R_mono HO_3.out (fun k_ hk => (⟨hk, hk⟩ : _ ∧ k_ ≠ gb166))) (fun _ hk => hk.2) (.int .i64 ((rd_T32 l0 x6_2).f1))) (fun _ hk => hk.1)⟩, ⟨by (with_reducible repeat (first | refine blk_drewN ?_ _ | refine blk_drew ?_ | refine blk_alloc ?_ _)); refine blk_put (cs := #[.int .i64 ((rd_T32 l0 x9_1).f1), .int .i64 x167001_2]) ?_ 1 _ rfl; (with_reducible repeat (first | refine blk_drewN ?_ _ | refine blk_drew ?_ | refine blk_alloc ?_ _)); exact BK166.out⟩, ⟨by repeat (first | (with_reducible first | exact HB.out | apply below_alloc | apply pw_below_drewN | apply below_drew1 | refine below_set ?_ GE166.out) | exact HB.out)⟩⟩
                          · rw [if_neg c14] at H
                            exact absurd H (by simp)
                        · rw [if_neg c13] at H
                          exact absurd H (by simp)
                      · replace c12 := Bool.eq_false_iff.mpr c12
                        subst c12
                        have H1 : (dolmenref9_Spans.l1 kj6 l0 x3_1 x9_1 (wrap64 (x6_2 + 1)) (l0.length : Int) x9_1 ((rd_T32 l0 x9_1).f1) x167001_2) = some r := by rw [if_neg (show ¬ (false = true) by decide)] at H; exact H
                        clear H
                        have H := H1
                        clear H1
                        have H' := Aside0.mk H
                        clear H
                        go_wp2_with (first | ((with_reducible refine gate_callee (f := 53) rfl ?_); refine goesL_ (some 34) rfl rfl Try.func53 (by kernel_rfl) rfl #[.slice (some ad165) l0.length c0, .int .i64 x9_1, .int .i64 x6_2] rfl (by (try simp only [List.map_toArray, List.map_cons, List.map_nil]); first | done | rfl | (simp only [List.length_drop, List.length_take]; rfl)) ?_; (with_reducible refine (dolmenref9_covers.calls _ _ l0 x9_1 x6_2 false _ ?side1 ?side2 A11.out).mono ?_); (case side1 => repeat (first | exact (Kd.C_below HR0.out HB.out) | (with_reducible refine Kd.C_alloc ?_ _) | (with_reducible refine Kd.C_drewN ?_ _) | (with_reducible refine Kd.C_drew ?_))); (case side2 => exact HC0.out); rintro e w17 ⟨rfl, hb⟩; refine ⟨_, rfl, ?_⟩; have n0_ := Aside0.mk (Kd.R_below (by (with_reducible repeat (first | apply Kd.R_alloc | apply Kd.R_drewN | apply Kd.R_drew)); exact HO_3.out) hb); have n1_ := Aside0.mk (blk_below (g := gb166) (o := .cells #[.int .i64 ((rd_T32 l0 x9_1).f1), .int .i64 x167001_2] 65 (0, 0)) (by (with_reducible repeat (first | refine blk_drewN ?_ _ | refine blk_drew ?_ | refine blk_alloc ?_ _)); exact BK166.out) hb); have n2_ := Aside0.mk (below_step (by repeat (first | (with_reducible first | exact HB.out | apply below_alloc | apply pw_below_drewN | apply below_drew1 | refine below_set ?_ GE166.out) | exact HB.out)) hb); clear HO_3; clear BK166; clear HB; have HO_3 := n0_; have BK166 := n1_; have HB := n2_; clear n0_ n1_ n2_; (try clear hb); (try clear hb2); (try clear hk); (try clear hi)))
                        go_roundg kj6
                        case measure => have := HK1.out; have := HK2.out; have := HJ6.out; omega
                        case rel => exact ⟨(wrap64 (x6_2 + 1)), (x167001_2), (by first | rfl | (simp; done) | (simp [*]; done)), H', ⟨by have := HK1.out; have := HK2.out; have := HJ6.out; omega⟩, ⟨by (with_reducible repeat (first | apply Kd.R_alloc | apply Kd.R_drewN | apply Kd.R_drew)); exact HO_3.out⟩, ⟨by (with_reducible repeat (first | refine blk_drewN ?_ _ | refine blk_drew ?_ | refine blk_alloc ?_ _)); exact BK166.out⟩, ⟨by repeat (first | (with_reducible first | exact HB.out | apply below_alloc | apply pw_below_drewN | apply below_drew1 | refine below_set ?_ GE166.out) | exact HB.out)⟩⟩
                    · replace c10 := Bool.eq_false_iff.mpr c10
                      subst c10
                      have H1 : (if x3_1.length < 8796093022208 then (dolmenref9_Spans.l0 kj6 l0 (x3_1 ++ [(⟨((rd_T32 l0 x9_1).f1), x167001_2⟩ : S65)]) (l0.length : Int) (wrap64 (x9_1 + 1))) else (none)) = some r := by rw [if_neg (show ¬ (false = true) by decide)] at H; exact H
                      clear H
                      have H := H1
                      clear H1
                      by_cases c18 : x3_1.length < 8796093022208
                      · rw [if_pos c18] at H
                        have LMc18 := Aside0.mk c18
                        clear c18
                        obtain ⟨y169, hy169⟩ : ∃ y_ : List (S65), y_ = (x3_1 ++ [(⟨((rd_T32 l0 x9_1).f1), x167001_2⟩ : S65)]) := ⟨_, rfl⟩
                        replace H : (dolmenref9_Spans.l0 kj6 l0 y169 (l0.length : Int) (wrap64 (x9_1 + 1))) = some r := by first | (rw [hy169]; with_reducible exact H) | (have H2_ := (Option.bind_some _ _).symm.trans H; rw [hy169]; with_reducible exact H2_) | (have H2_ := (Option.bind_some _ _).symm.trans H; with_reducible exact H2_) | with_reducible exact H | (rw [hy169]; exact H) | exact H
                        have Ny169 := Aside0.mk hy169
                        clear hy169
                        have H' := Aside0.mk H
                        clear H
                        have hcz19_0 : wc.cell? ⟨gb166, 0, none⟩ = some (.int .i64 ((rd_T32 l0 x9_1).f1)) := (blk_cell BK166.out 0).trans rfl
                        have hcz19_1 : wc.cell? ⟨gb166, 1, none⟩ = some (.int .i64 x167001_2) := (blk_cell BK166.out 1).trans rfl
                        have hfz19_0 := blk_frozen BK166.out 0
                        have hfz19_1 := blk_frozen BK166.out 1
                        go_wp2_with (first | ((with_reducible refine gate_builtin (b := .append) (xs := #[.tmp 41, .tmp 43]) rfl ?_); at_builtin; refine Kd.R_append k65 (w0 := w) w.heap.size rfl (.tmp 41) (.tmp 43) 60 65 (.agg #[(.int .i64 0), (.int .i64 0)]) 16 rfl Try.underlying60 info65 rfl (by decide) (by omega) u3 x3_1 (⟨((rd_T32 l0 x9_1).f1), x167001_2⟩ : S65) [.int .i64 ((rd_T32 l0 x9_1).f1), .int .i64 x167001_2] (fun k_ => k_ ≠ gb166) (fun _ => False) rfl rfl ?aP (fun _ hk => hk.elim) ?aF ?aO ?aB ?aS ?aL ?_; (case aP => exact k65_mkM _ _ _ (⟨((rd_T32 l0 x9_1).f1), x167001_2⟩ : S65)); (case aB => exact (by repeat (first | (with_reducible first | exact HB.out | apply below_alloc | apply pw_below_drewN | apply below_drew1 | refine below_set ?_ GE166.out) | exact HB.out))); (case aF => exact (fun k_ hk => Kd.freshB (g := gb166) (o := .cells #[.int .i64 ((rd_T32 l0 x9_1).f1), .int .i64 x167001_2] 65 (0, 0)) (by (with_reducible repeat (first | refine blk_drewN ?_ _ | refine blk_drew ?_ | refine blk_alloc ?_ _)); exact BK166.out) k_ hk)); (case aO => exact (by (with_reducible repeat (first | apply Kd.R_alloc | apply Kd.R_drewN | apply Kd.R_drew)); exact HO_3.out)); (case aS => exact (below_size (by repeat (first | (with_reducible first | exact HB.out | apply below_alloc | apply pw_below_drewN | apply below_drew1 | refine below_set ?_ GE166.out) | exact HB.out)))); (case aL => have := LMc18.out; omega); intro v170 w20 ho hb hg hat; rw [← Ny169.out] at ho; have n0_ := Aside0.mk (blk_grown (g := gb166) (o := .cells #[.int .i64 ((rd_T32 l0 x9_1).f1), .int .i64 x167001_2] 65 (0, 0)) (by (with_reducible repeat (first | refine blk_drewN ?_ _ | refine blk_drew ?_ | refine blk_alloc ?_ _)); exact BK166.out) hg (Kd.R_away HO_3.out (fun _ hk => hk))); have n1_ := Aside0.mk (hb); have n2_ := Aside0.mk (ho); clear BK166; clear HB; clear HO_3; have BK166 := n0_; have HB := n1_; have HO171 := n2_; clear n0_ n1_ n2_; clear ho hb hg hat))
                        go_roundg kj6
                        case measure => have := HK1.out; have := HK2.out; have := HJ6.out; omega
                        case rel => exact ⟨(y169), (wrap64 (x9_1 + 1)), (by first | rfl | (simp; done) | (simp [*]; done)), H', ⟨by have := HK1.out; have := HK2.out; have := HJ6.out; omega⟩, ⟨by (with_reducible repeat (first | apply Kd.R_alloc | apply Kd.R_drewN | apply Kd.R_drew)); exact Kd.R_mono HO171.out (fun _ hk => trivial)⟩, ⟨by repeat (first | (with_reducible first | exact HB.out | apply below_alloc | apply pw_below_drewN | apply below_drew1 | refine below_set ?_ GE166.out) | exact HB.out)⟩⟩
                      · rw [if_neg c18] at H
                        exact absurd H (by simp)
          · rw [if_neg c4] at H
            exact absurd H (by simp)
        · rw [if_neg c3] at H
          exact absurd H (by simp)
      · rw [if_neg c2] at H
        have c2b0 : decide (x9_1 < (l0.length : Int)) = false := decide_eq_false c2
        clear c2
        obtain rfl := Option.some.inj H
        go_wp2
        go_ret
        exact ⟨_, by first | rfl | (simp [errW_none, errW_some] <;> rfl) | (simp [*, errW_none, errW_some] <;> rfl), by (with_reducible repeat (first | apply Kd.R_alloc | apply Kd.R_drewN | apply Kd.R_drew)); exact HO_3.out, by repeat (first | (with_reducible first | exact HB.out | apply below_alloc | apply pw_below_drewN | apply below_drew1) | exact HB.out)⟩

/-! ### dolmenref9_Holds: function 66 -/
def dolmenref9_Holds.f (a0_0 : Int) (a0_1 : Int) (a1 : Int) : Option (Bool) := if a1 ≥ a0_0 then (if a0_1 = 0 then (some true) else (some (decide (a1 < a0_1)))) else (some false)
set_option maxHeartbeats 8000000 in
set_option maxRecDepth 100000 in
theorem dolmenref9_Holds.calls (a0_0 : Int) (a0_1 : Int) (a1 : Int) (r : Bool) (w : World) (h : dolmenref9_Holds.f a0_0 a0_1 a1 = some r) :
    Calls Try.prog 66 #[.agg #[.int .i64 a0_0, .int .i64 a0_1], .int .i64 a1] w fun e w' => e = .returned (.bool r) ∧ Below w.heap.size w w' := by
  have hu65 := Try.underlying65
  have HB := Aside0.mk (Below.refl w.heap.size w)
  have H : (if a1 ≥ a0_0 then (if a0_1 = 0 then (some true) else (some (decide (a1 < a0_1)))) else (some false)) = some r := h
  clear h
  by_cases c3 : a1 ≥ a0_0
  · rw [if_pos c3] at H
    have c3b0 : decide (a0_0 ≤ a1) = true := decide_eq_true c3
    clear c3
    by_cases c4 : a0_1 = 0
    · rw [if_pos c4] at H
      have c4b0 : (a0_1 == 0) = true := beq_iff_eq.mpr c4
      have c4b1 : (a0_1 != 0) = false := bne_eq_false_iff_eq.mpr c4
      clear c4
      obtain rfl := Option.some.inj H
      go_enter Try.func66, Try.ntmps66
      go_wp2_with (first | ((with_reducible refine gate_dst (N := 2) rfl ?_); refine box_event ?hg (N := 2) ?hd (cs := #[.int .i64 a0_0, .int .i64 a0_1]) (t := 65) ?hr ?_; (case hd => rfl); (case hg => rfl); (case hr => first | (go_simp; done) | (go_simp; rfl)); intro gb172 hg w5 hbox hb; have n0_ := Aside0.mk (below_step (by repeat (first | (with_reducible first | exact HB.out | apply below_alloc | apply pw_below_drewN | apply below_drew1) | exact HB.out)) hb); have n1_ := Aside0.mk (hbox); have n2_ := Aside0.mk ((by rw [hg]; exact (below_size (by repeat (first | (with_reducible first | exact HB.out | apply below_alloc | apply pw_below_drewN | apply below_drew1) | exact HB.out))) : w.heap.size ≤ gb172)); have n3_ := Aside0.mk ((by rw [hg]; exact (below_size (by repeat (first | (with_reducible first | exact HB.out | apply below_alloc | apply pw_below_drewN | apply below_drew1) | exact HB.out))) : w.heap.size ≤ gb172)); clear HB; have HB := n0_; have BK172 := n1_; have GW172 := n2_; have GE172 := n3_; clear n0_ n1_ n2_ n3_; clear hb hbox hg; have hcz6_0 : w5.cell? ⟨gb172, 0, none⟩ = some (.int .i64 a0_0) := (blk_cell BK172.out 0).trans rfl; have hcz6_1 : w5.cell? ⟨gb172, 1, none⟩ = some (.int .i64 a0_1) := (blk_cell BK172.out 1).trans rfl; have hfz6_0 := blk_frozen BK172.out 0; have hfz6_1 := blk_frozen BK172.out 1))
      go_ret
      exact ⟨by first | rfl | (simp [errW_none, errW_some] <;> rfl) | (simp [*, errW_none, errW_some] <;> rfl), by repeat (first | (with_reducible first | exact HB.out | apply below_alloc | apply pw_below_drewN | apply below_drew1 | refine below_set ?_ GE172.out) | exact HB.out)⟩
    · rw [if_neg c4] at H
      have c4b0 : (a0_1 == 0) = false := beq_eq_false_iff_ne.mpr c4
      have c4b1 : (a0_1 != 0) = true := bne_iff_ne.mpr c4
      obtain rfl := Option.some.inj H
      go_enter Try.func66, Try.ntmps66
      go_wp2_with (first | ((with_reducible refine gate_dst (N := 2) rfl ?_); refine box_event ?hg (N := 2) ?hd (cs := #[.int .i64 a0_0, .int .i64 a0_1]) (t := 65) ?hr ?_; (case hd => rfl); (case hg => rfl); (case hr => first | (go_simp; done) | (go_simp; rfl)); intro gb172 hg w7 hbox hb; have n0_ := Aside0.mk (below_step (by repeat (first | (with_reducible first | exact HB.out | apply below_alloc | apply pw_below_drewN | apply below_drew1) | exact HB.out)) hb); have n1_ := Aside0.mk (hbox); have n2_ := Aside0.mk ((by rw [hg]; exact (below_size (by repeat (first | (with_reducible first | exact HB.out | apply below_alloc | apply pw_below_drewN | apply below_drew1) | exact HB.out))) : w.heap.size ≤ gb172)); have n3_ := Aside0.mk ((by rw [hg]; exact (below_size (by repeat (first | (with_reducible first | exact HB.out | apply below_alloc | apply pw_below_drewN | apply below_drew1) | exact HB.out))) : w.heap.size ≤ gb172)); clear HB; have HB := n0_; have BK172 := n1_; have GW172 := n2_; have GE172 := n3_; clear n0_ n1_ n2_ n3_; clear hb hbox hg; have hcz8_0 : w7.cell? ⟨gb172, 0, none⟩ = some (.int .i64 a0_0) := (blk_cell BK172.out 0).trans rfl; have hcz8_1 : w7.cell? ⟨gb172, 1, none⟩ = some (.int .i64 a0_1) := (blk_cell BK172.out 1).trans rfl; have hfz8_0 := blk_frozen BK172.out 0; have hfz8_1 := blk_frozen BK172.out 1))
      go_ret
      exact ⟨by first | rfl | (simp [errW_none, errW_some] <;> rfl) | (simp [*, errW_none, errW_some] <;> rfl), by repeat (first | (with_reducible first | exact HB.out | apply below_alloc | apply pw_below_drewN | apply below_drew1 | refine below_set ?_ GE172.out) | exact HB.out)⟩
  · rw [if_neg c3] at H
    have c3b0 : decide (a0_0 ≤ a1) = false := decide_eq_false c3
    clear c3
    obtain rfl := Option.some.inj H
    go_enter Try.func66, Try.ntmps66
    go_wp2_with (first | ((with_reducible refine gate_dst (N := 2) rfl ?_); refine box_event ?hg (N := 2) ?hd (cs := #[.int .i64 a0_0, .int .i64 a0_1]) (t := 65) ?hr ?_; (case hd => rfl); (case hg => rfl); (case hr => first | (go_simp; done) | (go_simp; rfl)); intro gb172 hg w9 hbox hb; have n0_ := Aside0.mk (below_step (by repeat (first | (with_reducible first | exact HB.out | apply below_alloc | apply pw_below_drewN | apply below_drew1) | exact HB.out)) hb); have n1_ := Aside0.mk (hbox); have n2_ := Aside0.mk ((by rw [hg]; exact (below_size (by repeat (first | (with_reducible first | exact HB.out | apply below_alloc | apply pw_below_drewN | apply below_drew1) | exact HB.out))) : w.heap.size ≤ gb172)); have n3_ := Aside0.mk ((by rw [hg]; exact (below_size (by repeat (first | (with_reducible first | exact HB.out | apply below_alloc | apply pw_below_drewN | apply below_drew1) | exact HB.out))) : w.heap.size ≤ gb172)); clear HB; have HB := n0_; have BK172 := n1_; have GW172 := n2_; have GE172 := n3_; clear n0_ n1_ n2_ n3_; clear hb hbox hg; have hcz10_0 : w9.cell? ⟨gb172, 0, none⟩ = some (.int .i64 a0_0) := (blk_cell BK172.out 0).trans rfl; have hcz10_1 : w9.cell? ⟨gb172, 1, none⟩ = some (.int .i64 a0_1) := (blk_cell BK172.out 1).trans rfl; have hfz10_0 := blk_frozen BK172.out 0; have hfz10_1 := blk_frozen BK172.out 1))
    go_ret
    exact ⟨by first | rfl | (simp [errW_none, errW_some] <;> rfl) | (simp [*, errW_none, errW_some] <;> rfl), by repeat (first | (with_reducible first | exact HB.out | apply below_alloc | apply pw_below_drewN | apply below_drew1 | refine below_set ?_ GE172.out) | exact HB.out)⟩

end Go.Proofs.Ytacdocchcfbgcaa.Q
