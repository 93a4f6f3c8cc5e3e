-- printed by wip/mp.py (the kit's print, with given functions); Lean checks it
import Derived.Test.YtacdocchcfbgcaaEx0
import Derived.Test.YtacdocchcfbgcaaEx4
import Derived.Test.YtacdocchcfbgcaaEx5
namespace Go.Proofs.Ytacdocchcfbgcaa.Q
open Go.RowKit Go.Proofs.YtacdocchcfbgcaaW.PrintWords Go.Proofs.YtacdocchcfbgcaaW.PrintLast Go.Proofs.YtacdocchcfbgcaaW.PrintMore
attribute [local go_sem] max2_int min2_int max_two min_two max_three min_three max_four min_four   -- for this text's walks alone
set_option linter.unusedVariables false
set_option linter.unusedSimpArgs false

/-! ### fold_Check: function 41 -/
def fold_Check.l0 : Nat → Int → List (S50) → Int → Int → Option (Int × Option Int)
  | 0, _, _, _, _ => none
  | k + 1, x4, x7, x8, x9 => if x9 < x8 then (if 0 ≤ x9 then (if x9 < (x7.length : Int) then ((entry_Check.f k ((rd_T50 x7 x9).f0) ((rd_T50 x7 x9).f1) ((rd_T50 x7 x9).f2) ((rd_T50 x7 x9).f3) ((rd_T50 x7 x9).f4) ((rd_T50 x7 x9).f5)).bind fun t130 => (if t130.isNone = true then (if ((rd_T50 x7 x9).f1) < x4 then (some (x9, some 1)) else (fold_Check.l0 k ((rd_T50 x7 x9).f1) x7 x8 (wrap64 (x9 + 1)))) else (some (x9, some 1)))) else (none)) else (none)) else (some ((-1), none))
def fold_Check.f (k : Nat) (l0 : List (S50)) : Option (Int × Option Int) := fold_Check.l0 k 0 l0 (l0.length : Int) 0
theorem fold_Check.mono_l : ∀ k, (∀ y0 y1 y2 y3, LeO (fold_Check.l0 k y0 y1 y2 y3) (fold_Check.l0 (k + 1) y0 y1 y2 y3))
  | 0 => fun _ _ _ _ r h => by simp [fold_Check.l0] at h
  | k + 1 => by
    have ih0 := fold_Check.mono_l k
    · intro y0 y1 y2 y3
      unfold fold_Check.l0
      repeat' first
      | (with_reducible exact ih0 _ _ _ _)
      | (with_reducible exact entry_Check.mono _ _ _ _ _ _ _)
      | (with_reducible exact LeO.refl _)
      | (with_reducible exact LeO.none _)
      | (with_reducible refine LeO.ite ?_ ?_)
      | (with_reducible refine LeO.bind ?_ (fun _ => ?_))
      | exact ih0 _ _ _ _
      | exact entry_Check.mono _ _ _ _ _ _ _
      | exact LeO.none _
      | refine LeO.ite ?_ ?_
      | refine LeO.bind ?_ (fun _ => ?_)
theorem fold_Check.mono : ∀ a0 k, LeO (fold_Check.f k a0) (fold_Check.f (k + 1) a0) := by
  intro a0 k
  have ih0 := fold_Check.mono_l k
  unfold fold_Check.f
  repeat' first
      | (with_reducible exact ih0 _ _ _ _)
      | (with_reducible exact entry_Check.mono _ _ _ _ _ _ _)
      | (with_reducible exact LeO.refl _)
      | (with_reducible exact LeO.none _)
      | (with_reducible refine LeO.ite ?_ ?_)
      | (with_reducible refine LeO.bind ?_ (fun _ => ?_))
      | exact ih0 _ _ _ _
      | exact entry_Check.mono _ _ _ _ _ _ _
      | exact LeO.none _
      | refine LeO.ite ?_ ?_
      | refine LeO.bind ?_ (fun _ => ?_)
set_option maxHeartbeats 8000000 in
set_option maxRecDepth 100000 in
theorem fold_Check.calls (k : Nat) (A0 : Option Addr) (c0 : Nat) (l0 : List (S50)) (r1 : Int) (r2 : Option Int) (w : World) (hr0 : Kd.C k50 w A0 l0.length l0) (hc0 : l0.length ≤ c0) (h : fold_Check.f k l0 = some (r1, r2)) :
    Calls Try.prog 41 #[.slice A0 l0.length c0] w fun e w' => e = .returned (.tuple #[.int .i64 r1, errW r2]) ∧ Below w.heap.size w w' := by
  have hu50 := Try.underlying50
  have hu44 := Try.underlying44
  have hu90 := Try.underlying90
  have HR0 := Aside0.mk hr0
  have HC0 := Aside0.mk hc0
  clear hr0 hc0
  have HB := Aside0.mk (Below.refl w.heap.size w)
  have H : (fold_Check.l0 k 0 l0 (l0.length : Int) 0) = some (r1, r2) := h
  clear h
  have H' := Aside0.mk H
  clear H
  go_enter Try.func41, Try.ntmps41
  go_wp2
  go_loopg [4, 9] k (fun kq v4 v9 w' => ∃ (x4_1 : Int) (x9_1 : Int), v4 = .int .i64 x4_1 ∧ v9 = .int .i64 x9_1 ∧ Aside0 (fold_Check.l0 kq x4_1 l0 (l0.length : Int) x9_1 = some (r1, r2)) ∧ Aside0 (kq ≤ k) ∧ Aside0 (Below w.heap.size w w'))
  case atStart => exact ⟨(0), (0), (by first | rfl | (simp; done) | (simp [*]; done)), (by first | rfl | (simp; done) | (simp [*]; done)), H', ⟨Nat.le_refl _⟩, ⟨by repeat (first | (with_reducible first | exact HB.out | apply below_alloc | apply pw_below_drewN | apply below_drew1) | exact HB.out)⟩⟩
  case round =>
    clear H'
    obtain ⟨x4_1, x9_1, rfl, rfl, HA, HK1, HB⟩ := hrel
    cases gk with
    | zero => exact absurd HA.out (by simp [fold_Check.l0])
    | succ k1 =>
      have H := HA.out
      clear HA
      simp only [fold_Check.l0] at H
      by_cases c2 : x9_1 < (l0.length : Int)
      · rw [if_pos c2] at H
        have c2b0 : decide (x9_1 < (l0.length : Int)) = true := decide_eq_true c2
        clear c2
        by_cases c3 : 0 ≤ x9_1
        · rw [if_pos c3] at H
          have c3b0 : decide (0 ≤ x9_1) = true := decide_eq_true c3
          clear c3
          by_cases c4 : x9_1 < (l0.length : Int)
          · rw [if_pos c4] at H
            have c4b0 : decide (x9_1 < (l0.length : Int)) = true := decide_eq_true c4
            clear c4
            replace H := Option.bind_eq_some_iff.mp H
            obtain ⟨t130, A50, H⟩ := H
            replace H : (if t130.isNone = true then (if ((rd_T50 l0 x9_1).f1) < x4_1 then (some (x9_1, some 1)) else (fold_Check.l0 k1 ((rd_T50 l0 x9_1).f1) l0 (l0.length : Int) (wrap64 (x9_1 + 1)))) else (some (x9_1, some 1))) = some (r1, r2) := H
            have A5 := Aside0.mk A50
            clear A50
            rcases t130 with _ | q131
            · have H1 : (if ((rd_T50 l0 x9_1).f1) < x4_1 then (some (x9_1, some 1)) else (fold_Check.l0 k1 ((rd_T50 l0 x9_1).f1) l0 (l0.length : Int) (wrap64 (x9_1 + 1)))) = some (r1, r2) := by rw [if_pos (show (none : Option Int).isNone = true by rfl)] at H; exact H
              clear H
              have H := H1
              clear H1
              try simp only [errW_none, errW_some]
              by_cases c6 : ((rd_T50 l0 x9_1).f1) < x4_1
              · rw [if_pos c6] at H
                have c6b0 : decide (((rd_T50 l0 x9_1).f1) < x4_1) = true := decide_eq_true c6
                clear c6
                simp only [Option.some.injEq, Prod.mk.injEq] at H
                obtain ⟨rfl, rfl⟩ := H
                have p128 : 0 ≤ (x9_1 : Int) := of_decide_eq_true (by first | (with_reducible assumption) | assumption)
                have q128 : x9_1 < (l0.length : Int) := of_decide_eq_true (by first | (with_reducible assumption) | assumption)
                obtain ⟨ad128, A128_3, c128_3, e128, hx128_0, hx128_1, hx128_2, hx128_3, hx128_4, hx128_5, hl128_3, hi128_3⟩ := at_T50 HR0.out x9_1 p128 q128
                cases e128
                replace hx128_0 := (HB.out.cell (World.block_lt_of_cell? w _ hx128_0)).trans hx128_0
                replace hx128_1 := (HB.out.cell (World.block_lt_of_cell? w _ hx128_1)).trans hx128_1
                replace hx128_2 := (HB.out.cell (World.block_lt_of_cell? w _ hx128_2)).trans hx128_2
                replace hx128_3 := (HB.out.cell (World.block_lt_of_cell? w _ hx128_3)).trans hx128_3
                replace hx128_4 := (HB.out.cell (World.block_lt_of_cell? w _ hx128_4)).trans hx128_4
                replace hx128_5 := (HB.out.cell (World.block_lt_of_cell? w _ hx128_5)).trans hx128_5
                have HR128_3 := Aside0.mk hi128_3
                have HC128_3 := Aside0.mk hl128_3
                clear hi128_3 hl128_3
                replace p128 := eq_true p128
                replace q128 := eq_true q128
                go_wp2_with (first | ((with_reducible refine gate_dst (N := 6) rfl ?_); refine box_event ?hg (N := 6) ?hd (cs := #[.int .i64 0, .int .i64 0, .int .i64 0, .slice none 0 0, .string (⟨#[]⟩ : ByteArray), .int .i64 0]) (t := 50) ?hr ?_; (case hd => rfl); (case hg => rfl); (case hr => first | (go_simp; done) | (go_simp; rfl)); intro gb129 hg w7 hbox hb; have n0_ := Aside0.mk (below_step (by repeat (first | (with_reducible first | exact HB.out | apply below_alloc | apply pw_below_drewN | apply below_drew1) | exact HB.out)) hb); have n1_ := Aside0.mk (hbox); have n2_ := Aside0.mk ((by rw [hg]; exact (below_size (by repeat (first | (with_reducible first | exact HB.out | apply below_alloc | apply pw_below_drewN | apply below_drew1) | exact HB.out))) : w.heap.size ≤ gb129)); have n3_ := Aside0.mk ((by rw [hg]; exact (below_size (by repeat (first | (with_reducible first | exact HB.out | apply below_alloc | apply pw_below_drewN | apply below_drew1) | exact HB.out))) : w.heap.size ≤ gb129)); clear HB; have HB := n0_; have BK129 := n1_; have GW129 := n2_; have GE129 := n3_; clear n0_ n1_ n2_ n3_; clear hb hbox hg; have hcz8_0 : w7.cell? ⟨gb129, 0, none⟩ = some (.int .i64 0) := (blk_cell BK129.out 0).trans rfl; have hcz8_1 : w7.cell? ⟨gb129, 1, none⟩ = some (.int .i64 0) := (blk_cell BK129.out 1).trans rfl; have hcz8_2 : w7.cell? ⟨gb129, 2, none⟩ = some (.int .i64 0) := (blk_cell BK129.out 2).trans rfl; have hcz8_3 : w7.cell? ⟨gb129, 3, none⟩ = some (.slice none 0 0) := (blk_cell BK129.out 3).trans rfl; have hcz8_4 : w7.cell? ⟨gb129, 4, none⟩ = some (.string (⟨#[]⟩ : ByteArray)) := (blk_cell BK129.out 4).trans rfl; have hcz8_5 : w7.cell? ⟨gb129, 5, none⟩ = some (.int .i64 0) := (blk_cell BK129.out 5).trans rfl; have hfz8_0 := blk_frozen BK129.out 0; have hfz8_1 := blk_frozen BK129.out 1; have hfz8_2 := blk_frozen BK129.out 2; have hfz8_3 := blk_frozen BK129.out 3; have hfz8_4 := blk_frozen BK129.out 4; have hfz8_5 := blk_frozen BK129.out 5) | ((with_reducible refine gate_callee (f := 46) rfl ?_); refine goesL_ (some 15) rfl rfl Try.func46 (by kernel_rfl) rfl #[.agg #[.int .i64 ((rd_T50 l0 x9_1).f0), .int .i64 ((rd_T50 l0 x9_1).f1), .int .i64 ((rd_T50 l0 x9_1).f2), .slice A128_3 ((rd_T50 l0 x9_1).f3).length c128_3, .string ((rd_T50 l0 x9_1).f4), .int .i64 ((rd_T50 l0 x9_1).f5)]] rfl (by (try simp only [List.map_toArray, List.map_cons, List.map_nil]); first | done | rfl | (simp only [List.length_drop, List.length_take]; rfl)) ?_; (with_reducible refine (entry_Check.calls k1 ((rd_T50 l0 x9_1).f0) ((rd_T50 l0 x9_1).f1) ((rd_T50 l0 x9_1).f2) _ _ ((rd_T50 l0 x9_1).f3) ((rd_T50 l0 x9_1).f4) ((rd_T50 l0 x9_1).f5) none _ ?side1 ?side2 A5.out).mono ?_); (case side1 => exact Kd.C_below HR128_3.out (by repeat (first | (with_reducible first | exact HB.out | apply below_alloc | apply pw_below_drewN | apply below_drew1 | refine below_set ?_ GE129.out) | exact HB.out))); (case side2 => exact HC128_3.out); rintro e w9 ⟨rfl, hb⟩; refine ⟨_, rfl, ?_⟩; have n0_ := Aside0.mk (blk_below (g := gb129) (o := .cells #[.int .i64 ((rd_T50 l0 x9_1).f0), .int .i64 ((rd_T50 l0 x9_1).f1), .int .i64 ((rd_T50 l0 x9_1).f2), .slice A128_3 ((rd_T50 l0 x9_1).f3).length c128_3, .string ((rd_T50 l0 x9_1).f4), .int .i64 ((rd_T50 l0 x9_1).f5)] 50 (0, 0)) (by (with_reducible repeat (first | refine blk_drewN ?_ _ | refine blk_drew ?_ | refine blk_alloc ?_ _)); refine blk_put (cs := #[.int .i64 ((rd_T50 l0 x9_1).f0), .int .i64 ((rd_T50 l0 x9_1).f1), .int .i64 ((rd_T50 l0 x9_1).f2), .slice A128_3 ((rd_T50 l0 x9_1).f3).length c128_3, .string ((rd_T50 l0 x9_1).f4), .int .i64 0]) ?_ 5 _ rfl; (with_reducible repeat (first | refine blk_drewN ?_ _ | refine blk_drew ?_ | refine blk_alloc ?_ _)); refine blk_put (cs := #[.int .i64 ((rd_T50 l0 x9_1).f0), .int .i64 ((rd_T50 l0 x9_1).f1), .int .i64 ((rd_T50 l0 x9_1).f2), .slice A128_3 ((rd_T50 l0 x9_1).f3).length c128_3, .string (⟨#[]⟩ : ByteArray), .int .i64 0]) ?_ 4 _ rfl; (with_reducible repeat (first | refine blk_drewN ?_ _ | refine blk_drew ?_ | refine blk_alloc ?_ _)); refine blk_put (cs := #[.int .i64 ((rd_T50 l0 x9_1).f0), .int .i64 ((rd_T50 l0 x9_1).f1), .int .i64 ((rd_T50 l0 x9_1).f2), .slice none 0 0, .string (⟨#[]⟩ : ByteArray), .int .i64 0]) ?_ 3 _ rfl; (with_reducible repeat (first | refine blk_drewN ?_ _ | refine blk_drew ?_ | refine blk_alloc ?_ _)); refine blk_put (cs := #[.int .i64 ((rd_T50 l0 x9_1).f0), .int .i64 ((rd_T50 l0 x9_1).f1), .int .i64 0, .slice none 0 0, .string (⟨#[]⟩ : ByteArray), .int .i64 0]) ?_ 2 _ rfl; (with_reducible repeat (first | refine blk_drewN ?_ _ | refine blk_drew ?_ | refine blk_alloc ?_ _)); refine blk_put (cs := #[.int .i64 ((rd_T50 l0 x9_1).f0), .int .i64 0, .int .i64 0, .slice none 0 0, .string (⟨#[]⟩ : ByteArray), .int .i64 0]) ?_ 1 _ rfl; (with_reducible repeat (first | refine blk_drewN ?_ _ | refine blk_drew ?_ | refine blk_alloc ?_ _)); refine blk_put (cs := #[.int .i64 0, .int .i64 0, .int .i64 0, .slice none 0 0, .string (⟨#[]⟩ : ByteArray), .int .i64 0]) ?_ 0 _ rfl; (with_reducible repeat (first | refine blk_drewN ?_ _ | refine blk_drew ?_ | refine blk_alloc ?_ _)); exact BK129.out) hb); have n1_ := Aside0.mk (below_step (by repeat (first | (with_reducible first | exact HB.out | apply below_alloc | apply pw_below_drewN | apply below_drew1 | refine below_set ?_ GE129.out) | exact HB.out)) hb); clear BK129; clear HB; have BK129 := n0_; have HB := n1_; clear n0_ n1_; (try clear hb); (try clear hb2); (try clear hk); (try clear hi); (try simp only [errW_none, errW_some]); have hcz10_0 : w9.cell? ⟨gb129, 0, none⟩ = some (.int .i64 ((rd_T50 l0 x9_1).f0)) := (blk_cell BK129.out 0).trans rfl; have hcz10_1 : w9.cell? ⟨gb129, 1, none⟩ = some (.int .i64 ((rd_T50 l0 x9_1).f1)) := (blk_cell BK129.out 1).trans rfl; have hcz10_2 : w9.cell? ⟨gb129, 2, none⟩ = some (.int .i64 ((rd_T50 l0 x9_1).f2)) := (blk_cell BK129.out 2).trans rfl; have hcz10_3 : w9.cell? ⟨gb129, 3, none⟩ = some (.slice A128_3 ((rd_T50 l0 x9_1).f3).length c128_3) := (blk_cell BK129.out 3).trans rfl; have hcz10_4 : w9.cell? ⟨gb129, 4, none⟩ = some (.string ((rd_T50 l0 x9_1).f4)) := (blk_cell BK129.out 4).trans rfl; have hcz10_5 : w9.cell? ⟨gb129, 5, none⟩ = some (.int .i64 ((rd_T50 l0 x9_1).f5)) := (blk_cell BK129.out 5).trans rfl; have hfz10_0 := blk_frozen BK129.out 0; have hfz10_1 := blk_frozen BK129.out 1; have hfz10_2 := blk_frozen BK129.out 2; have hfz10_3 := blk_frozen BK129.out 3; have hfz10_4 := blk_frozen BK129.out 4; have hfz10_5 := blk_frozen BK129.out 5))
                go_ret2
                exact ⟨by first | rfl | (simp [errW_none, errW_some] <;> rfl) | (simp [*, errW_none, errW_some] <;> rfl), by repeat (first | (with_reducible first | exact HB.out | apply below_alloc | apply pw_below_drewN | apply below_drew1 | refine below_set ?_ GE129.out) | exact HB.out)⟩
              · rw [if_neg c6] at H
                have c6b0 : decide (((rd_T50 l0 x9_1).f1) < x4_1) = false := decide_eq_false c6
                clear c6
                have H' := Aside0.mk H
                clear H
                have p128 : 0 ≤ (x9_1 : Int) := of_decide_eq_true (by first | (with_reducible assumption) | assumption)
                have q128 : x9_1 < (l0.length : Int) := of_decide_eq_true (by first | (with_reducible assumption) | assumption)
                obtain ⟨ad128, A128_3, c128_3, e128, hx128_0, hx128_1, hx128_2, hx128_3, hx128_4, hx128_5, hl128_3, hi128_3⟩ := at_T50 HR0.out x9_1 p128 q128
                cases e128
                replace hx128_0 := (HB.out.cell (World.block_lt_of_cell? w _ hx128_0)).trans hx128_0
                replace hx128_1 := (HB.out.cell (World.block_lt_of_cell? w _ hx128_1)).trans hx128_1
                replace hx128_2 := (HB.out.cell (World.block_lt_of_cell? w _ hx128_2)).trans hx128_2
                replace hx128_3 := (HB.out.cell (World.block_lt_of_cell? w _ hx128_3)).trans hx128_3
                replace hx128_4 := (HB.out.cell (World.block_lt_of_cell? w _ hx128_4)).trans hx128_4
                replace hx128_5 := (HB.out.cell (World.block_lt_of_cell? w _ hx128_5)).trans hx128_5
                have HR128_3 := Aside0.mk hi128_3
                have HC128_3 := Aside0.mk hl128_3
                clear hi128_3 hl128_3
                replace p128 := eq_true p128
                replace q128 := eq_true q128
                go_wp2_with (first | ((with_reducible refine gate_dst (N := 6) rfl ?_); refine box_event ?hg (N := 6) ?hd (cs := #[.int .i64 0, .int .i64 0, .int .i64 0, .slice none 0 0, .string (⟨#[]⟩ : ByteArray), .int .i64 0]) (t := 50) ?hr ?_; (case hd => rfl); (case hg => rfl); (case hr => first | (go_simp; done) | (go_simp; rfl)); intro gb129 hg w11 hbox hb; have n0_ := Aside0.mk (below_step (by repeat (first | (with_reducible first | exact HB.out | apply below_alloc | apply pw_below_drewN | apply below_drew1) | exact HB.out)) hb); have n1_ := Aside0.mk (hbox); have n2_ := Aside0.mk ((by rw [hg]; exact (below_size (by repeat (first | (with_reducible first | exact HB.out | apply below_alloc | apply pw_below_drewN | apply below_drew1) | exact HB.out))) : w.heap.size ≤ gb129)); have n3_ := Aside0.mk ((by rw [hg]; exact (below_size (by repeat (first | (with_reducible first | exact HB.out | apply below_alloc | apply pw_below_drewN | apply below_drew1) | exact HB.out))) : w.heap.size ≤ gb129)); clear HB; have HB := n0_; have BK129 := n1_; have GW129 := n2_; have GE129 := n3_; clear n0_ n1_ n2_ n3_; clear hb hbox hg; have hcz12_0 : w11.cell? ⟨gb129, 0, none⟩ = some (.int .i64 0) := (blk_cell BK129.out 0).trans rfl; have hcz12_1 : w11.cell? ⟨gb129, 1, none⟩ = some (.int .i64 0) := (blk_cell BK129.out 1).trans rfl; have hcz12_2 : w11.cell? ⟨gb129, 2, none⟩ = some (.int .i64 0) := (blk_cell BK129.out 2).trans rfl; have hcz12_3 : w11.cell? ⟨gb129, 3, none⟩ = some (.slice none 0 0) := (blk_cell BK129.out 3).trans rfl; have hcz12_4 : w11.cell? ⟨gb129, 4, none⟩ = some (.string (⟨#[]⟩ : ByteArray)) := (blk_cell BK129.out 4).trans rfl; have hcz12_5 : w11.cell? ⟨gb129, 5, none⟩ = some (.int .i64 0) := (blk_cell BK129.out 5).trans rfl; have hfz12_0 := blk_frozen BK129.out 0; have hfz12_1 := blk_frozen BK129.out 1; have hfz12_2 := blk_frozen BK129.out 2; have hfz12_3 := blk_frozen BK129.out 3; have hfz12_4 := blk_frozen BK129.out 4; have hfz12_5 := blk_frozen BK129.out 5) | ((with_reducible refine gate_callee (f := 46) rfl ?_); refine goesL_ (some 15) rfl rfl Try.func46 (by kernel_rfl) rfl #[.agg #[.int .i64 ((rd_T50 l0 x9_1).f0), .int .i64 ((rd_T50 l0 x9_1).f1), .int .i64 ((rd_T50 l0 x9_1).f2), .slice A128_3 ((rd_T50 l0 x9_1).f3).length c128_3, .string ((rd_T50 l0 x9_1).f4), .int .i64 ((rd_T50 l0 x9_1).f5)]] rfl (by (try simp only [List.map_toArray, List.map_cons, List.map_nil]); first | done | rfl | (simp only [List.length_drop, List.length_take]; rfl)) ?_; (with_reducible refine (entry_Check.calls k1 ((rd_T50 l0 x9_1).f0) ((rd_T50 l0 x9_1).f1) ((rd_T50 l0 x9_1).f2) _ _ ((rd_T50 l0 x9_1).f3) ((rd_T50 l0 x9_1).f4) ((rd_T50 l0 x9_1).f5) none _ ?side1 ?side2 A5.out).mono ?_); (case side1 => exact Kd.C_below HR128_3.out (by repeat (first | (with_reducible first | exact HB.out | apply below_alloc | apply pw_below_drewN | apply below_drew1 | refine below_set ?_ GE129.out) | exact HB.out))); (case side2 => exact HC128_3.out); rintro e w13 ⟨rfl, hb⟩; refine ⟨_, rfl, ?_⟩; have n0_ := Aside0.mk (blk_below (g := gb129) (o := .cells #[.int .i64 ((rd_T50 l0 x9_1).f0), .int .i64 ((rd_T50 l0 x9_1).f1), .int .i64 ((rd_T50 l0 x9_1).f2), .slice A128_3 ((rd_T50 l0 x9_1).f3).length c128_3, .string ((rd_T50 l0 x9_1).f4), .int .i64 ((rd_T50 l0 x9_1).f5)] 50 (0, 0)) (by (with_reducible repeat (first | refine blk_drewN ?_ _ | refine blk_drew ?_ | refine blk_alloc ?_ _)); refine blk_put (cs := #[.int .i64 ((rd_T50 l0 x9_1).f0), .int .i64 ((rd_T50 l0 x9_1).f1), .int .i64 ((rd_T50 l0 x9_1).f2), .slice A128_3 ((rd_T50 l0 x9_1).f3).length c128_3, .string ((rd_T50 l0 x9_1).f4), .int .i64 0]) ?_ 5 _ rfl; (with_reducible repeat (first | refine blk_drewN ?_ _ | refine blk_drew ?_ | refine blk_alloc ?_ _)); refine blk_put (cs := #[.int .i64 ((rd_T50 l0 x9_1).f0), .int .i64 ((rd_T50 l0 x9_1).f1), .int .i64 ((rd_T50 l0 x9_1).f2), .slice A128_3 ((rd_T50 l0 x9_1).f3).length c128_3, .string (⟨#[]⟩ : ByteArray), .int .i64 0]) ?_ 4 _ rfl; (with_reducible repeat (first | refine blk_drewN ?_ _ | refine blk_drew ?_ | refine blk_alloc ?_ _)); refine blk_put (cs := #[.int .i64 ((rd_T50 l0 x9_1).f0), .int .i64 ((rd_T50 l0 x9_1).f1), .int .i64 ((rd_T50 l0 x9_1).f2), .slice none 0 0, .string (⟨#[]⟩ : ByteArray), .int .i64 0]) ?_ 3 _ rfl; (with_reducible repeat (first | refine blk_drewN ?_ _ | refine blk_drew ?_ | refine blk_alloc ?_ _)); refine blk_put (cs := #[.int .i64 ((rd_T50 l0 x9_1).f0), .int .i64 ((rd_T50 l0 x9_1).f1), .int .i64 0, .slice none 0 0, .string (⟨#[]⟩ : ByteArray), .int .i64 0]) ?_ 2 _ rfl; (with_reducible repeat (first | refine blk_drewN ?_ _ | refine blk_drew ?_ | refine blk_alloc ?_ _)); refine blk_put (cs := #[.int .i64 ((rd_T50 l0 x9_1).f0), .int .i64 0, .int .i64 0, .slice none 0 0, .string (⟨#[]⟩ : ByteArray), .int .i64 0]) ?_ 1 _ rfl; (with_reducible repeat (first | refine blk_drewN ?_ _ | refine blk_drew ?_ | refine blk_alloc ?_ _)); refine blk_put (cs := #[.int .i64 0, .int .i64 0, .int .i64 0, .slice none 0 0, .string (⟨#[]⟩ : ByteArray), .int .i64 0]) ?_ 0 _ rfl; (with_reducible repeat (first | refine blk_drewN ?_ _ | refine blk_drew ?_ | refine blk_alloc ?_ _)); exact BK129.out) hb); have n1_ := Aside0.mk (below_step (by repeat (first | (with_reducible first | exact HB.out | apply below_alloc | apply pw_below_drewN | apply below_drew1 | refine below_set ?_ GE129.out) | exact HB.out)) hb); clear BK129; clear HB; have BK129 := n0_; have HB := n1_; clear n0_ n1_; (try clear hb); (try clear hb2); (try clear hk); (try clear hi); (try simp only [errW_none, errW_some]); have hcz14_0 : w13.cell? ⟨gb129, 0, none⟩ = some (.int .i64 ((rd_T50 l0 x9_1).f0)) := (blk_cell BK129.out 0).trans rfl; have hcz14_1 : w13.cell? ⟨gb129, 1, none⟩ = some (.int .i64 ((rd_T50 l0 x9_1).f1)) := (blk_cell BK129.out 1).trans rfl; have hcz14_2 : w13.cell? ⟨gb129, 2, none⟩ = some (.int .i64 ((rd_T50 l0 x9_1).f2)) := (blk_cell BK129.out 2).trans rfl; have hcz14_3 : w13.cell? ⟨gb129, 3, none⟩ = some (.slice A128_3 ((rd_T50 l0 x9_1).f3).length c128_3) := (blk_cell BK129.out 3).trans rfl; have hcz14_4 : w13.cell? ⟨gb129, 4, none⟩ = some (.string ((rd_T50 l0 x9_1).f4)) := (blk_cell BK129.out 4).trans rfl; have hcz14_5 : w13.cell? ⟨gb129, 5, none⟩ = some (.int .i64 ((rd_T50 l0 x9_1).f5)) := (blk_cell BK129.out 5).trans rfl; have hfz14_0 := blk_frozen BK129.out 0; have hfz14_1 := blk_frozen BK129.out 1; have hfz14_2 := blk_frozen BK129.out 2; have hfz14_3 := blk_frozen BK129.out 3; have hfz14_4 := blk_frozen BK129.out 4; have hfz14_5 := blk_frozen BK129.out 5))
                go_roundg k1
                case measure => have := HK1.out; omega
                case rel => exact ⟨((rd_T50 l0 x9_1).f1), (wrap64 (x9_1 + 1)), (by first | rfl | (simp; done) | (simp [*]; done)), (by first | rfl | (simp; done) | (simp [*]; done)), H', ⟨by have := HK1.out; omega⟩, ⟨by repeat (first | (with_reducible first | exact HB.out | apply below_alloc | apply pw_below_drewN | apply below_drew1 | refine below_set ?_ GE129.out) | exact HB.out)⟩⟩
            · have H1 : (some (x9_1, some 1)) = some (r1, r2) := by rw [if_neg (show ¬ (some q131).isNone = true by simp)] at H; exact H
              clear H
              have H := H1
              clear H1
              try simp only [errW_none, errW_some]
              simp only [Option.some.injEq, Prod.mk.injEq] at H
              obtain ⟨rfl, rfl⟩ := H
              have p128 : 0 ≤ (x9_1 : Int) := of_decide_eq_true (by first | (with_reducible assumption) | assumption)
              have q128 : x9_1 < (l0.length : Int) := of_decide_eq_true (by first | (with_reducible assumption) | assumption)
              obtain ⟨ad128, A128_3, c128_3, e128, hx128_0, hx128_1, hx128_2, hx128_3, hx128_4, hx128_5, hl128_3, hi128_3⟩ := at_T50 HR0.out x9_1 p128 q128
              cases e128
              replace hx128_0 := (HB.out.cell (World.block_lt_of_cell? w _ hx128_0)).trans hx128_0
              replace hx128_1 := (HB.out.cell (World.block_lt_of_cell? w _ hx128_1)).trans hx128_1
              replace hx128_2 := (HB.out.cell (World.block_lt_of_cell? w _ hx128_2)).trans hx128_2
              replace hx128_3 := (HB.out.cell (World.block_lt_of_cell? w _ hx128_3)).trans hx128_3
              replace hx128_4 := (HB.out.cell (World.block_lt_of_cell? w _ hx128_4)).trans hx128_4
              replace hx128_5 := (HB.out.cell (World.block_lt_of_cell? w _ hx128_5)).trans hx128_5
              have HR128_3 := Aside0.mk hi128_3
              have HC128_3 := Aside0.mk hl128_3
              clear hi128_3 hl128_3
              replace p128 := eq_true p128
              replace q128 := eq_true q128
              go_wp2_with (first | ((with_reducible refine gate_dst (N := 6) rfl ?_); refine box_event ?hg (N := 6) ?hd (cs := #[.int .i64 0, .int .i64 0, .int .i64 0, .slice none 0 0, .string (⟨#[]⟩ : ByteArray), .int .i64 0]) (t := 50) ?hr ?_; (case hd => rfl); (case hg => rfl); (case hr => first | (go_simp; done) | (go_simp; rfl)); intro gb129 hg w15 hbox hb; have n0_ := Aside0.mk (below_step (by repeat (first | (with_reducible first | exact HB.out | apply below_alloc | apply pw_below_drewN | apply below_drew1) | exact HB.out)) hb); have n1_ := Aside0.mk (hbox); have n2_ := Aside0.mk ((by rw [hg]; exact (below_size (by repeat (first | (with_reducible first | exact HB.out | apply below_alloc | apply pw_below_drewN | apply below_drew1) | exact HB.out))) : w.heap.size ≤ gb129)); have n3_ := Aside0.mk ((by rw [hg]; exact (below_size (by repeat (first | (with_reducible first | exact HB.out | apply below_alloc | apply pw_below_drewN | apply below_drew1) | exact HB.out))) : w.heap.size ≤ gb129)); clear HB; have HB := n0_; have BK129 := n1_; have GW129 := n2_; have GE129 := n3_; clear n0_ n1_ n2_ n3_; clear hb hbox hg; have hcz16_0 : w15.cell? ⟨gb129, 0, none⟩ = some (.int .i64 0) := (blk_cell BK129.out 0).trans rfl; have hcz16_1 : w15.cell? ⟨gb129, 1, none⟩ = some (.int .i64 0) := (blk_cell BK129.out 1).trans rfl; have hcz16_2 : w15.cell? ⟨gb129, 2, none⟩ = some (.int .i64 0) := (blk_cell BK129.out 2).trans rfl; have hcz16_3 : w15.cell? ⟨gb129, 3, none⟩ = some (.slice none 0 0) := (blk_cell BK129.out 3).trans rfl; have hcz16_4 : w15.cell? ⟨gb129, 4, none⟩ = some (.string (⟨#[]⟩ : ByteArray)) := (blk_cell BK129.out 4).trans rfl; have hcz16_5 : w15.cell? ⟨gb129, 5, none⟩ = some (.int .i64 0) := (blk_cell BK129.out 5).trans rfl; have hfz16_0 := blk_frozen BK129.out 0; have hfz16_1 := blk_frozen BK129.out 1; have hfz16_2 := blk_frozen BK129.out 2; have hfz16_3 := blk_frozen BK129.out 3; have hfz16_4 := blk_frozen BK129.out 4; have hfz16_5 := blk_frozen BK129.out 5) | ((with_reducible refine gate_callee (f := 46) rfl ?_); refine goesL_ (some 15) rfl rfl Try.func46 (by kernel_rfl) rfl #[.agg #[.int .i64 ((rd_T50 l0 x9_1).f0), .int .i64 ((rd_T50 l0 x9_1).f1), .int .i64 ((rd_T50 l0 x9_1).f2), .slice A128_3 ((rd_T50 l0 x9_1).f3).length c128_3, .string ((rd_T50 l0 x9_1).f4), .int .i64 ((rd_T50 l0 x9_1).f5)]] rfl (by (try simp only [List.map_toArray, List.map_cons, List.map_nil]); first | done | rfl | (simp only [List.length_drop, List.length_take]; rfl)) ?_; (with_reducible refine (entry_Check.calls k1 ((rd_T50 l0 x9_1).f0) ((rd_T50 l0 x9_1).f1) ((rd_T50 l0 x9_1).f2) _ _ ((rd_T50 l0 x9_1).f3) ((rd_T50 l0 x9_1).f4) ((rd_T50 l0 x9_1).f5) (some q131) _ ?side1 ?side2 A5.out).mono ?_); (case side1 => exact Kd.C_below HR128_3.out (by repeat (first | (with_reducible first | exact HB.out | apply below_alloc | apply pw_below_drewN | apply below_drew1 | refine below_set ?_ GE129.out) | exact HB.out))); (case side2 => exact HC128_3.out); rintro e w17 ⟨rfl, hb⟩; refine ⟨_, rfl, ?_⟩; have n0_ := Aside0.mk (blk_below (g := gb129) (o := .cells #[.int .i64 ((rd_T50 l0 x9_1).f0), .int .i64 ((rd_T50 l0 x9_1).f1), .int .i64 ((rd_T50 l0 x9_1).f2), .slice A128_3 ((rd_T50 l0 x9_1).f3).length c128_3, .string ((rd_T50 l0 x9_1).f4), .int .i64 ((rd_T50 l0 x9_1).f5)] 50 (0, 0)) (by (with_reducible repeat (first | refine blk_drewN ?_ _ | refine blk_drew ?_ | refine blk_alloc ?_ _)); refine blk_put (cs := #[.int .i64 ((rd_T50 l0 x9_1).f0), .int .i64 ((rd_T50 l0 x9_1).f1), .int .i64 ((rd_T50 l0 x9_1).f2), .slice A128_3 ((rd_T50 l0 x9_1).f3).length c128_3, .string ((rd_T50 l0 x9_1).f4), .int .i64 0]) ?_ 5 _ rfl; (with_reducible repeat (first | refine blk_drewN ?_ _ | refine blk_drew ?_ | refine blk_alloc ?_ _)); refine blk_put (cs := #[.int .i64 ((rd_T50 l0 x9_1).f0), .int .i64 ((rd_T50 l0 x9_1).f1), .int .i64 ((rd_T50 l0 x9_1).f2), .slice A128_3 ((rd_T50 l0 x9_1).f3).length c128_3, .string (⟨#[]⟩ : ByteArray), .int .i64 0]) ?_ 4 _ rfl; (with_reducible repeat (first | refine blk_drewN ?_ _ | refine blk_drew ?_ | refine blk_alloc ?_ _)); refine blk_put (cs := #[.int .i64 ((rd_T50 l0 x9_1).f0), .int .i64 ((rd_T50 l0 x9_1).f1), .int .i64 ((rd_T50 l0 x9_1).f2), .slice none 0 0, .string (⟨#[]⟩ : ByteArray), .int .i64 0]) ?_ 3 _ rfl; (with_reducible repeat (first | refine blk_drewN ?_ _ | refine blk_drew ?_ | refine blk_alloc ?_ _)); refine blk_put (cs := #[.int .i64 ((rd_T50 l0 x9_1).f0), .int .i64 ((rd_T50 l0 x9_1).f1), .int .i64 0, .slice none 0 0, .string (⟨#[]⟩ : ByteArray), .int .i64 0]) ?_ 2 _ rfl; (with_reducible repeat (first | refine blk_drewN ?_ _ | refine blk_drew ?_ | refine blk_alloc ?_ _)); refine blk_put (cs := #[.int .i64 ((rd_T50 l0 x9_1).f0), .int .i64 0, .int .i64 0, .slice none 0 0, .string (⟨#[]⟩ : ByteArray), .int .i64 0]) ?_ 1 _ rfl; (with_reducible repeat (first | refine blk_drewN ?_ _ | refine blk_drew ?_ | refine blk_alloc ?_ _)); refine blk_put (cs := #[.int .i64 0, .int .i64 0, .int .i64 0, .slice none 0 0, .string (⟨#[]⟩ : ByteArray), .int .i64 0]) ?_ 0 _ rfl; (with_reducible repeat (first | refine blk_drewN ?_ _ | refine blk_drew ?_ | refine blk_alloc ?_ _)); exact BK129.out) hb); have n1_ := Aside0.mk (below_step (by repeat (first | (with_reducible first | exact HB.out | apply below_alloc | apply pw_below_drewN | apply below_drew1 | refine below_set ?_ GE129.out) | exact HB.out)) hb); clear BK129; clear HB; have BK129 := n0_; have HB := n1_; clear n0_ n1_; (try clear hb); (try clear hb2); (try clear hk); (try clear hi); (try simp only [errW_none, errW_some])))
              go_ret2
              exact ⟨by first | rfl | (simp [errW_none, errW_some] <;> rfl) | (simp [*, errW_none, errW_some] <;> rfl), by repeat (first | (with_reducible first | exact HB.out | apply below_alloc | apply pw_below_drewN | apply below_drew1 | refine below_set ?_ GE129.out) | exact HB.out)⟩
          · rw [if_neg c4] at H
            exact absurd H (by simp)
        · rw [if_neg c3] at H
          exact absurd H (by simp)
      · rw [if_neg c2] at H
        have c2b0 : decide (x9_1 < (l0.length : Int)) = false := decide_eq_false c2
        clear c2
        simp only [Option.some.injEq, Prod.mk.injEq] at H
        obtain ⟨rfl, rfl⟩ := H
        go_wp2
        go_ret2
        exact ⟨by first | rfl | (simp [errW_none, errW_some] <;> rfl) | (simp [*, errW_none, errW_some] <;> rfl), by repeat (first | (with_reducible first | exact HB.out | apply below_alloc | apply pw_below_drewN | apply below_drew1) | exact HB.out)⟩

/-! ### dolmenalike_Code: function 33, given -/
def dolmenalike_Code.f (a0 : Option Int) : Option (Int) := some (Go.Proofs.Ytacdocchcfbgcaa.HErr.codeOf a0)
theorem dolmenalike_Code.calls (a0 : Option Int) (r : Int) (w : World) (h : dolmenalike_Code.f a0 = some r) :
    Calls Try.prog 33 #[errW a0] w fun e w' => e = .returned (.int .i64 r) ∧ Drawn0 w w' := by
  obtain rfl := Option.some.inj h
  have e : errW a0 = Go.Proofs.Ytacdocchcfbgcaa.HErr.errV a0 := by cases a0 <;> rfl
  rw [e]
  exact (Go.Proofs.Ytacdocchcfbgcaa.HErr.code_any a0 w).mono fun _ _ ⟨h1, h2⟩ => ⟨h1, by subst h2; exact Drawn0.refl _⟩

/-! ### dolmenlaw13_awake: function 14, given -/
def aw3L : List S50 := [⟨1, 1, 2, [97, 98], ⟨#[]⟩, 0⟩]
theorem aw31 : fold_File.f 50 aw3L 1 = some [0, 0, 97, 98] := by kernel_rfl
theorem aw32 : fold_Check.f 50 [⟨0, 0, 0, [], ⟨#[]⟩, 0⟩] = some (0, some 1) := by kernel_rfl
def aw3W (w : World) : World := (w.alloc (Obj.cells #[Value.int .u8 97, Value.int .u8 98] 5 (2, 3))).alloc
      (Obj.cells #[Value.int .i64 1, Value.int .i64 1, Value.int .i64 2, Value.slice (some ⟨w.heap.size, 0, none⟩) 2 2, Value.string ⟨#[]⟩, Value.int .i64 0] 50)
theorem aw3C (w : World) : Kd.C k50 (aw3W w) (some ⟨w.heap.size + 1, 0, none⟩) aw3L.length aw3L := by
  have b0 : (aw3W w).heap[w.heap.size]? = some (Obj.cells #[Value.int .u8 97, Value.int .u8 98] 5 (2, 3)) := by
    unfold aw3W
    rw [Below.heap_alloc _ _ _ (by simp)]
    exact heap_alloc_new w _
  refine Go.Proofs.Ytacdocchcfbgcaa.HBlk.C_of_block (t := 50) (fr := (0, 0)) (cs := #[Value.int .i64 1, Value.int .i64 1, Value.int .i64 2, Value.slice (some ⟨w.heap.size, 0, none⟩) 2 2, Value.string ⟨#[]⟩, Value.int .i64 0]) ?_ ?_ (by decide)
  · have := heap_alloc_new (w.alloc (Obj.cells #[Value.int .u8 97, Value.int .u8 98] 5 (2, 3))) (Obj.cells #[Value.int .i64 1, Value.int .i64 1, Value.int .i64 2, Value.slice (some ⟨w.heap.size, 0, none⟩) 2 2, Value.string ⟨#[]⟩, Value.int .i64 0] 50)
    simpa [aw3W] using this
  · exact Reps.c6 (k50_mk _ (⟨1, 1, 2, [97, 98], ⟨#[]⟩, 0⟩ : S50) (by decide) (Go.Proofs.Ytacdocchcfbgcaa.HBlk.C_of_block b0 (Reps.one (show Kd.K (Kd.int .u8) _ 97 [.int .u8 97] from rfl) (Reps.one (show Kd.K (Kd.int .u8) _ 98 [.int .u8 98] from rfl) (Reps.none _ _))) (by decide))) (Reps.none _ _)
theorem aw3B (w : World) : Below w.heap.size w (aw3W w) := below_alloc (below_alloc (Below.refl _ _) _) _
set_option maxHeartbeats 1000000 in
set_option maxRecDepth 100000 in
theorem aw3_any (w : World) : Calls Try.prog 14 #[] w fun e w' => e = .returned (.bool true) ∧ Below w.heap.size w w' := by
  have k1 := Go.Proofs.Ytacdocchcfbgcaa.HBlk.conv_const Try.underlying30 Try.underlying5 w #[.int .u8 97, .int .u8 98] 2 2 w.heap.size rfl
  have HC := Aside0.mk (aw3C w)
  have HB := Aside0.mk (aw3B w)
  go_enter Try.func14, Try.ntmps14
  go_wp2_with fail
  refine (fold_File.calls 50 (some ⟨w.heap.size + 1, 0, none⟩) 1 aw3L 1 _ (aw3W w) HC.out (by decide) aw31).mono ?_
  rintro e w1 ⟨v0, rfl, hV, hb⟩
  obtain ⟨Av, cv, rfl⟩ := Kd.V_slice hV
  have HB1 := Aside0.mk (below_then HB.out HB.out.size hb)
  have HV := Aside0.mk hV
  clear HB HC hb hV
  have B3 := Aside0.mk (Below.alloc (Below.refl w1.heap.size w1) (Nat.le_refl _) (Obj.cells #[Value.int .i64 0, Value.int .i64 0, Value.int .i64 0, Value.slice none 0 0, Value.string ⟨#[]⟩, Value.int .i64 0] 50))
  have C3 : Aside0 (Kd.C k50 (w1.alloc (Obj.cells #[Value.int .i64 0, Value.int .i64 0, Value.int .i64 0, Value.slice none 0 0, Value.string ⟨#[]⟩, Value.int .i64 0] 50)) (some ⟨w1.heap.size, 0, none⟩) [(⟨0, 0, 0, [], ⟨#[]⟩, 0⟩ : S50)].length [⟨0, 0, 0, [], ⟨#[]⟩, 0⟩]) :=
    ⟨Go.Proofs.Ytacdocchcfbgcaa.HBlk.C_of_block (heap_alloc_new w1 _) (Reps.c6 (k50_mk _ (⟨0, 0, 0, [], ⟨#[]⟩, 0⟩ : S50) (by decide) (Kd.C_nil _ _)) (Reps.none _ _)) (by decide)⟩
  go_wp2_with fail
  refine (fold_Check.calls 50 (some ⟨w1.heap.size, 0, none⟩) 1 [⟨0, 0, 0, [], ⟨#[]⟩, 0⟩] _ _ _ C3.out (by decide) aw32).mono ?_
  rintro e w2 ⟨rfl, hb⟩
  have HB2 := Aside0.mk (below_then (below_then HB1.out HB1.out.size B3.out) (Nat.le_trans HB1.out.size B3.out.size) hb)
  have HV2 := Aside0.mk (Kd.V_below (Kd.V_below HV.out B3.out) hb)
  clear HB1 HV B3 C3 hb
  simp only [errW_some]
  have hcv := Kd.C_string (c := cv) (dst := 9) Try.underlying30 Try.underlying5 Try.underlying9 (Kd.V_reads' HV2.out).2.2
  rw [show strOfNums [0, 0, 97, 98] = (⟨#[0, 0, 97, 98]⟩ : ByteArray) from by rfl] at hcv
  have hcode : ∀ W : World, Calls Try.prog 33 #[.iface 90 (.int .i64 1)] W fun e w' => e = .returned (.int .i64 1) ∧ Drawn0 W w' := fun W => dolmenalike_Code.calls (some 1) 1 W (by kernel_rfl)
  have HH := Lib.hid hcode
  clear hcode
  simp only [List.length_cons, List.length_nil, Nat.zero_add, Nat.reduceAdd] at hcv
  go_wp2_with (go_at_call 33; refine (HH.out _).mono ?_; rintro e w' ⟨rfl, ⟨nn, rfl⟩⟩)
  go_ret
  exact ⟨rfl, pw_below_drewN HB2.out _⟩
def dolmenlaw13_awake.f : Option (Bool) := some true
theorem dolmenlaw13_awake.calls (r : Bool) (w : World) (h : dolmenlaw13_awake.f = some r) :
    Calls Try.prog 14 #[] w fun e w' => e = .returned (.bool r) ∧ Below w.heap.size w w' := by
  obtain rfl := Option.some.inj h
  exact aw3_any w

/-! ### fold_Sizes: function 15 -/
def fold_Sizes.l0 : Nat → List Int → List Int → List (S50) → Int → Int → Option (List Int)
  | 0, _, _, _, _, _ => none
  | k + 1, x2, x3, x6, x7, x8 => if x8 < x7 then (if 0 ≤ x8 then (if x8 < (x6.length : Int) then ((fold_next.f k x3 ((rd_T50 x6 x8).f0) ((rd_T50 x6 x8).f1) ((rd_T50 x6 x8).f2) ((rd_T50 x6 x8).f3) ((rd_T50 x6 x8).f4) ((rd_T50 x6 x8).f5)).bind fun t134 => (if x2.length < 17592186044416 then (fold_Sizes.l0 k (x2 ++ [(t134.length : Int)]) t134 x6 x7 (wrap64 (x8 + 1))) else (none))) else (none)) else (none)) else (some x2)
def fold_Sizes.f (k : Nat) (l0 : List (S50)) : Option (List Int) := fold_Sizes.l0 k ([] : List Int) ([] : List Int) l0 (l0.length : Int) 0
theorem fold_Sizes.mono_l : ∀ k, (∀ y0 y1 y2 y3 y4, LeO (fold_Sizes.l0 k y0 y1 y2 y3 y4) (fold_Sizes.l0 (k + 1) y0 y1 y2 y3 y4))
  | 0 => fun _ _ _ _ _ r h => by simp [fold_Sizes.l0] at h
  | k + 1 => by
    have ih0 := fold_Sizes.mono_l k
    · intro y0 y1 y2 y3 y4
      unfold fold_Sizes.l0
      repeat' first
      | (with_reducible exact ih0 _ _ _ _ _)
      | (with_reducible exact fold_next.mono _ _ _ _ _ _ _ _)
      | (with_reducible exact LeO.refl _)
      | (with_reducible exact LeO.none _)
      | (with_reducible refine LeO.ite ?_ ?_)
      | (with_reducible refine LeO.bind ?_ (fun _ => ?_))
      | exact ih0 _ _ _ _ _
      | exact fold_next.mono _ _ _ _ _ _ _ _
      | exact LeO.none _
      | refine LeO.ite ?_ ?_
      | refine LeO.bind ?_ (fun _ => ?_)
theorem fold_Sizes.mono : ∀ a0 k, LeO (fold_Sizes.f k a0) (fold_Sizes.f (k + 1) a0) := by
  intro a0 k
  have ih0 := fold_Sizes.mono_l k
  unfold fold_Sizes.f
  repeat' first
      | (with_reducible exact ih0 _ _ _ _ _)
      | (with_reducible exact fold_next.mono _ _ _ _ _ _ _ _)
      | (with_reducible exact LeO.refl _)
      | (with_reducible exact LeO.none _)
      | (with_reducible refine LeO.ite ?_ ?_)
      | (with_reducible refine LeO.bind ?_ (fun _ => ?_))
      | exact ih0 _ _ _ _ _
      | exact fold_next.mono _ _ _ _ _ _ _ _
      | exact LeO.none _
      | refine LeO.ite ?_ ?_
      | refine LeO.bind ?_ (fun _ => ?_)
set_option maxHeartbeats 8000000 in
set_option maxRecDepth 100000 in
theorem fold_Sizes.calls (k : Nat) (A0 : Option Addr) (c0 : Nat) (l0 : List (S50)) (r : List Int) (w : World) (hr0 : Kd.C k50 w A0 l0.length l0) (hc0 : l0.length ≤ c0) (h : fold_Sizes.f k l0 = some r) :
    Calls Try.prog 15 #[.slice A0 l0.length c0] w fun e w' => ∃ v0_ : Value, e = .returned (v0_) ∧ Kd.R (Kd.int .i64) 3 w' w.heap.size (fun _ => True) v0_ r ∧ Below w.heap.size w w' := by
  have hu50 := Try.underlying50
  have HR0 := Aside0.mk hr0
  have HC0 := Aside0.mk hc0
  clear hr0 hc0
  have HB := Aside0.mk (Below.refl w.heap.size w)
  have H : (fold_Sizes.l0 k ([] : List Int) ([] : List Int) l0 (l0.length : Int) 0) = some r := h
  clear h
  have H' := Aside0.mk H
  clear H
  go_enter Try.func15, Try.ntmps15
  go_wp2
  go_loopg [2, 3, 8] k (fun kq v2 v3 v8 w' => ∃ (x2_1 : List Int) (x3_1 : List Int) (x8_1 : Int), v8 = .int .i64 x8_1 ∧ Aside0 (fold_Sizes.l0 kq x2_1 x3_1 l0 (l0.length : Int) x8_1 = some r) ∧ Aside0 (kq ≤ k) ∧ Aside0 (Kd.R (Kd.int .i64) 3 w' w.heap.size (fun _ => True) v2 x2_1) ∧ Aside0 (Kd.V (Kd.int .u8) 5 w' w.heap.size (fun k_ => some k_ ≠ (v2 : Value).ownBlock) v3 x3_1) ∧ Aside0 (Below w.heap.size w w'))
  case atStart => exact ⟨(([] : List Int)), (([] : List Int)), (0), (by first | rfl | (simp; done) | (simp [*]; done)), H', ⟨Nat.le_refl _⟩, ⟨by first | exact Kd.R_nil _ _ _ _ _ | exact Kd.N_nil _ _ _ _ _ | exact Kd.V_nil _ _ _ _ _ | exact Kd.Q_nil _ _ _ _ _ | exact Kd.S_nil _ _ _ _ _⟩, ⟨(by first | exact Kd.V_nil _ _ _ _ _ | exact Kd.R_V (by first | exact Kd.R_nil _ _ _ _ _ | exact Kd.N_nil _ _ _ _ _ | exact Kd.V_nil _ _ _ _ _ | exact Kd.Q_nil _ _ _ _ _ | exact Kd.S_nil _ _ _ _ _))⟩, ⟨by repeat (first | (with_reducible first | exact HB.out | apply below_alloc | apply pw_below_drewN | apply below_drew1) | exact HB.out)⟩⟩
  case round =>
    clear H'
    (try clear c1)
    obtain ⟨x2_1, x3_1, x8_1, rfl, HA, HK1, HO_2, HO_3, HB⟩ := hrel
    cases gk with
    | zero => exact absurd HA.out (by simp [fold_Sizes.l0])
    | succ k1 =>
      have H := HA.out
      clear HA
      simp only [fold_Sizes.l0] at H
      by_cases c2 : x8_1 < (l0.length : Int)
      · rw [if_pos c2] at H
        have c2b0 : decide (x8_1 < (l0.length : Int)) = true := decide_eq_true c2
        clear c2
        by_cases c3 : 0 ≤ x8_1
        · rw [if_pos c3] at H
          have c3b0 : decide (0 ≤ x8_1) = true := decide_eq_true c3
          clear c3
          by_cases c4 : x8_1 < (l0.length : Int)
          · rw [if_pos c4] at H
            have c4b0 : decide (x8_1 < (l0.length : Int)) = true := decide_eq_true c4
            clear c4
            replace H := Option.bind_eq_some_iff.mp H
            obtain ⟨t134, A50, H⟩ := H
            replace H : (if x2_1.length < 17592186044416 then (fold_Sizes.l0 k1 (x2_1 ++ [(t134.length : Int)]) t134 l0 (l0.length : Int) (wrap64 (x8_1 + 1))) else (none)) = some r := H
            have A5 := Aside0.mk A50
            clear A50
            by_cases c6 : x2_1.length < 17592186044416
            · rw [if_pos c6] at H
              have LMc6 := Aside0.mk c6
              clear c6
              obtain ⟨y137, hy137⟩ : ∃ y_ : List Int, y_ = (x2_1 ++ [(t134.length : Int)]) := ⟨_, rfl⟩
              replace H : (fold_Sizes.l0 k1 y137 t134 l0 (l0.length : Int) (wrap64 (x8_1 + 1))) = some r := by first | (rw [hy137]; with_reducible exact H) | (have H2_ := (Option.bind_some _ _).symm.trans H; rw [hy137]; with_reducible exact H2_) | (have H2_ := (Option.bind_some _ _).symm.trans H; with_reducible exact H2_) | with_reducible exact H | (rw [hy137]; exact H) | exact H
              have Ny137 := Aside0.mk hy137
              clear hy137
              have H' := Aside0.mk H
              clear H
              have p132 : 0 ≤ (x8_1 : Int) := of_decide_eq_true (by first | (with_reducible assumption) | assumption)
              have q132 : x8_1 < (l0.length : Int) := of_decide_eq_true (by first | (with_reducible assumption) | assumption)
              obtain ⟨ad132, A132_3, c132_3, e132, hx132_0, hx132_1, hx132_2, hx132_3, hx132_4, hx132_5, hl132_3, hi132_3⟩ := at_T50 HR0.out x8_1 p132 q132
              cases e132
              replace hx132_0 := (HB.out.cell (World.block_lt_of_cell? w _ hx132_0)).trans hx132_0
              replace hx132_1 := (HB.out.cell (World.block_lt_of_cell? w _ hx132_1)).trans hx132_1
              replace hx132_2 := (HB.out.cell (World.block_lt_of_cell? w _ hx132_2)).trans hx132_2
              replace hx132_3 := (HB.out.cell (World.block_lt_of_cell? w _ hx132_3)).trans hx132_3
              replace hx132_4 := (HB.out.cell (World.block_lt_of_cell? w _ hx132_4)).trans hx132_4
              replace hx132_5 := (HB.out.cell (World.block_lt_of_cell? w _ hx132_5)).trans hx132_5
              have HR132_3 := Aside0.mk hi132_3
              have HC132_3 := Aside0.mk hl132_3
              clear hi132_3 hl132_3
              replace p132 := eq_true p132
              replace q132 := eq_true q132
              go_wp2_with (first | ((with_reducible refine gate_dst (N := 5) rfl ?_); refine box_event ?hg (N := 5) ?hd (cs := #[.int .i64 0, .int .i64 0, .int .i64 0, .slice none 0 0, .string (⟨#[]⟩ : ByteArray), .int .i64 0]) (t := 50) ?hr ?_; (case hd => rfl); (case hg => rfl); (case hr => first | (go_simp; done) | (go_simp; rfl)); intro gb133 hg w7 hbox hb; have n0_ := Aside0.mk (Kd.R_below (by (with_reducible repeat (first | apply Kd.R_alloc | apply Kd.R_drewN | apply Kd.R_drew)); exact HO_2.out) hb); have n1_ := Aside0.mk (Kd.V_below (Kd.V_elderB (by (with_reducible repeat (first | apply Kd.V_alloc | apply Kd.V_drewN | apply Kd.V_drew)); exact HO_3.out) gb133 (Nat.le_of_eq hg.symm)) hb); have n2_ := Aside0.mk (below_step (by repeat (first | (with_reducible first | exact HB.out | apply below_alloc | apply pw_below_drewN | apply below_drew1) | exact HB.out)) hb); have n3_ := Aside0.mk (hbox); have n4_ := Aside0.mk ((by rw [hg]; exact (below_size (by repeat (first | (with_reducible first | exact HB.out | apply below_alloc | apply pw_below_drewN | apply below_drew1) | exact HB.out))) : w.heap.size ≤ gb133)); have n5_ := Aside0.mk ((by rw [hg]; exact (below_size (by repeat (first | (with_reducible first | exact HB.out | apply below_alloc | apply pw_below_drewN | apply below_drew1) | exact HB.out))) : w.heap.size ≤ gb133)); clear HO_2; clear HO_3; clear HB; have HO_2 := n0_; have HO_3 := n1_; have HB := n2_; have BK133 := n3_; have GW133 := n4_; have GE133 := n5_; clear n0_ n1_ n2_ n3_ n4_ n5_; clear hb hbox hg; have hcz8_0 : w7.cell? ⟨gb133, 0, none⟩ = some (.int .i64 0) := (blk_cell BK133.out 0).trans rfl; have hcz8_1 : w7.cell? ⟨gb133, 1, none⟩ = some (.int .i64 0) := (blk_cell BK133.out 1).trans rfl; have hcz8_2 : w7.cell? ⟨gb133, 2, none⟩ = some (.int .i64 0) := (blk_cell BK133.out 2).trans rfl; have hcz8_3 : w7.cell? ⟨gb133, 3, none⟩ = some (.slice none 0 0) := (blk_cell BK133.out 3).trans rfl; have hcz8_4 : w7.cell? ⟨gb133, 4, none⟩ = some (.string (⟨#[]⟩ : ByteArray)) := (blk_cell BK133.out 4).trans rfl; have hcz8_5 : w7.cell? ⟨gb133, 5, none⟩ = some (.int .i64 0) := (blk_cell BK133.out 5).trans rfl; have hfz8_0 := blk_frozen BK133.out 0; have hfz8_1 := blk_frozen BK133.out 1; have hfz8_2 := blk_frozen BK133.out 2; have hfz8_3 := blk_frozen BK133.out 3; have hfz8_4 := blk_frozen BK133.out 4; have hfz8_5 := blk_frozen BK133.out 5) | ((with_reducible refine gate_store (t := 50) (p := 5) rfl ?_); refine store_event (t := 50) (p := 5) (v := ?vo_w9) (w1 := ((((((w7.setCell ⟨gb133, 0, none⟩ (.int .i64 ((rd_T50 l0 x8_1).f0))).setCell ⟨gb133, 1, none⟩ (.int .i64 ((rd_T50 l0 x8_1).f1))).setCell ⟨gb133, 2, none⟩ (.int .i64 ((rd_T50 l0 x8_1).f2))).setCell ⟨gb133, 3, none⟩ (.slice A132_3 ((rd_T50 l0 x8_1).f3).length c132_3)).setCell ⟨gb133, 4, none⟩ (.string ((rd_T50 l0 x8_1).f4))).setCell ⟨gb133, 5, none⟩ (.int .i64 ((rd_T50 l0 x8_1).f5)))) ?hg ?ho ?hn ?hr ?_; (case ho => rfl); (case hg => rfl); (case hn => rfl); (case hr => first | (go_simp; done) | (go_simp; rfl)); intro w9 hw; have n0_ : Aside0 (Kd.R (Kd.int .i64) 3 w9 w.heap.size (fun _ => True) u2 x2_1) := ⟨(by rw [hw]; exact (by (with_reducible repeat (first | apply Kd.R_alloc | apply Kd.R_drewN | apply Kd.R_drew)); exact Kd.R_mono (Kd.R_far (p := ⟨gb133, 5, none⟩) (Kd.R_far (p := ⟨gb133, 4, none⟩) (Kd.R_far (p := ⟨gb133, 3, none⟩) (Kd.R_far (p := ⟨gb133, 2, none⟩) (Kd.R_far (p := ⟨gb133, 1, none⟩) (Kd.R_far (p := ⟨gb133, 0, none⟩) (Kd.R_types HO_2.out BK133.out (by decide)) (fun _ hk => hk.2) (.int .i64 ((rd_T50 l0 x8_1).f0))) (fun _ hk => hk.2) (.int .i64 ((rd_T50 l0 x8_1).f1))) (fun _ hk => hk.2) (.int .i64 ((rd_T50 l0 x8_1).f2))) (fun _ hk => hk.2) (.slice A132_3 ((rd_T50 l0 x8_1).f3).length c132_3)) (fun _ hk => hk.2) (.string ((rd_T50 l0 x8_1).f4))) (fun _ hk => hk.2) (.int .i64 ((rd_T50 l0 x8_1).f5))) (fun _ hk => trivial)))⟩; have n1_ : Aside0 (Kd.V (Kd.int .u8) 5 w9 w.heap.size (fun k_ => some k_ ≠ (u2 : Value).ownBlock ∧ k_ ≠ gb133) u3 x3_1) := ⟨(by rw [hw]; exact (by (with_reducible repeat (first | apply Kd.V_alloc | apply Kd.V_drewN | apply Kd.V_drew)); exact Kd.V_mono (Kd.V_far (p := ⟨gb133, 5, none⟩) (Kd.V_far (p := ⟨gb133, 4, none⟩) (Kd.V_far (p := ⟨gb133, 3, none⟩) (Kd.V_far (p := ⟨gb133, 2, none⟩) (Kd.V_far (p := ⟨gb133, 1, none⟩) (Kd.V_far (p := ⟨gb133, 0, none⟩) (Kd.V_mono HO_3.out (fun k_ hk => (⟨hk, hk.2⟩ : _ ∧ k_ ≠ gb133))) (fun _ hk => hk.2) (.int .i64 ((rd_T50 l0 x8_1).f0))) (fun _ hk => hk.2) (.int .i64 ((rd_T50 l0 x8_1).f1))) (fun _ hk => hk.2) (.int .i64 ((rd_T50 l0 x8_1).f2))) (fun _ hk => hk.2) (.slice A132_3 ((rd_T50 l0 x8_1).f3).length c132_3)) (fun _ hk => hk.2) (.string ((rd_T50 l0 x8_1).f4))) (fun _ hk => hk.2) (.int .i64 ((rd_T50 l0 x8_1).f5))) (fun _ hk => ⟨hk.1.1, hk.1.2⟩)))⟩; have n2_ : Aside0 (w9.heap[gb133]? = some (.cells #[.int .i64 ((rd_T50 l0 x8_1).f0), .int .i64 ((rd_T50 l0 x8_1).f1), .int .i64 ((rd_T50 l0 x8_1).f2), .slice A132_3 ((rd_T50 l0 x8_1).f3).length c132_3, .string ((rd_T50 l0 x8_1).f4), .int .i64 ((rd_T50 l0 x8_1).f5)] 50 (0, 0))) := ⟨(by rw [hw]; exact (by (with_reducible repeat (first | refine blk_drewN ?_ _ | refine blk_drew ?_ | refine blk_alloc ?_ _)); refine blk_put (cs := #[.int .i64 ((rd_T50 l0 x8_1).f0), .int .i64 ((rd_T50 l0 x8_1).f1), .int .i64 ((rd_T50 l0 x8_1).f2), .slice A132_3 ((rd_T50 l0 x8_1).f3).length c132_3, .string ((rd_T50 l0 x8_1).f4), .int .i64 0]) ?_ 5 _ rfl; (with_reducible repeat (first | refine blk_drewN ?_ _ | refine blk_drew ?_ | refine blk_alloc ?_ _)); refine blk_put (cs := #[.int .i64 ((rd_T50 l0 x8_1).f0), .int .i64 ((rd_T50 l0 x8_1).f1), .int .i64 ((rd_T50 l0 x8_1).f2), .slice A132_3 ((rd_T50 l0 x8_1).f3).length c132_3, .string (⟨#[]⟩ : ByteArray), .int .i64 0]) ?_ 4 _ rfl; (with_reducible repeat (first | refine blk_drewN ?_ _ | refine blk_drew ?_ | refine blk_alloc ?_ _)); refine blk_put (cs := #[.int .i64 ((rd_T50 l0 x8_1).f0), .int .i64 ((rd_T50 l0 x8_1).f1), .int .i64 ((rd_T50 l0 x8_1).f2), .slice none 0 0, .string (⟨#[]⟩ : ByteArray), .int .i64 0]) ?_ 3 _ rfl; (with_reducible repeat (first | refine blk_drewN ?_ _ | refine blk_drew ?_ | refine blk_alloc ?_ _)); refine blk_put (cs := #[.int .i64 ((rd_T50 l0 x8_1).f0), .int .i64 ((rd_T50 l0 x8_1).f1), .int .i64 0, .slice none 0 0, .string (⟨#[]⟩ : ByteArray), .int .i64 0]) ?_ 2 _ rfl; (with_reducible repeat (first | refine blk_drewN ?_ _ | refine blk_drew ?_ | refine blk_alloc ?_ _)); refine blk_put (cs := #[.int .i64 ((rd_T50 l0 x8_1).f0), .int .i64 0, .int .i64 0, .slice none 0 0, .string (⟨#[]⟩ : ByteArray), .int .i64 0]) ?_ 1 _ rfl; (with_reducible repeat (first | refine blk_drewN ?_ _ | refine blk_drew ?_ | refine blk_alloc ?_ _)); refine blk_put (cs := #[.int .i64 0, .int .i64 0, .int .i64 0, .slice none 0 0, .string (⟨#[]⟩ : ByteArray), .int .i64 0]) ?_ 0 _ rfl; (with_reducible repeat (first | refine blk_drewN ?_ _ | refine blk_drew ?_ | refine blk_alloc ?_ _)); exact BK133.out))⟩; have n3_ : Aside0 (Below w.heap.size w w9) := ⟨(by rw [hw]; exact (by repeat (first | (with_reducible first | exact HB.out | apply below_alloc | apply pw_below_drewN | apply below_drew1 | refine below_set ?_ GE133.out) | exact HB.out)))⟩; clear hw; clear HO_2; clear HO_3; clear BK133; clear HB; have HO_2 := n0_; have HO_3 := n1_; have BK133 := n2_; have HB := n3_; clear n0_ n1_ n2_ n3_; have hcz10_0 : w9.cell? ⟨gb133, 0, none⟩ = some (.int .i64 ((rd_T50 l0 x8_1).f0)) := (blk_cell BK133.out 0).trans rfl; have hcz10_1 : w9.cell? ⟨gb133, 1, none⟩ = some (.int .i64 ((rd_T50 l0 x8_1).f1)) := (blk_cell BK133.out 1).trans rfl; have hcz10_2 : w9.cell? ⟨gb133, 2, none⟩ = some (.int .i64 ((rd_T50 l0 x8_1).f2)) := (blk_cell BK133.out 2).trans rfl; have hcz10_3 : w9.cell? ⟨gb133, 3, none⟩ = some (.slice A132_3 ((rd_T50 l0 x8_1).f3).length c132_3) := (blk_cell BK133.out 3).trans rfl; have hcz10_4 : w9.cell? ⟨gb133, 4, none⟩ = some (.string ((rd_T50 l0 x8_1).f4)) := (blk_cell BK133.out 4).trans rfl; have hcz10_5 : w9.cell? ⟨gb133, 5, none⟩ = some (.int .i64 ((rd_T50 l0 x8_1).f5)) := (blk_cell BK133.out 5).trans rfl; have hfz10_0 := blk_frozen BK133.out 0; have hfz10_1 := blk_frozen BK133.out 1; have hfz10_2 := blk_frozen BK133.out 2; have hfz10_3 := blk_frozen BK133.out 3; have hfz10_4 := blk_frozen BK133.out 4; have hfz10_5 := blk_frozen BK133.out 5; obtain ⟨Ao11, co11, eo11⟩ := Kd.V_slice HO_3.out; subst eo11) | ((with_reducible refine gate_callee (f := 45) rfl ?_); refine goesL_ (some 14) rfl rfl Try.func45 (by kernel_rfl) rfl #[.slice Ao11 x3_1.length co11, .agg #[.int .i64 ((rd_T50 l0 x8_1).f0), .int .i64 ((rd_T50 l0 x8_1).f1), .int .i64 ((rd_T50 l0 x8_1).f2), .slice A132_3 ((rd_T50 l0 x8_1).f3).length c132_3, .string ((rd_T50 l0 x8_1).f4), .int .i64 ((rd_T50 l0 x8_1).f5)]] rfl (by (try simp only [List.map_toArray, List.map_cons, List.map_nil]); first | done | rfl | (simp only [List.length_drop, List.length_take]; rfl)) ?_; (with_reducible refine (fold_next.calls k1 (fun k_ => (some k_ ≠ (u2 : Value).ownBlock ∧ k_ ≠ gb133)) _ _ x3_1 ((rd_T50 l0 x8_1).f0) ((rd_T50 l0 x8_1).f1) ((rd_T50 l0 x8_1).f2) _ _ ((rd_T50 l0 x8_1).f3) ((rd_T50 l0 x8_1).f4) ((rd_T50 l0 x8_1).f5) t134 _ ?side1 ?side2 ?side3 A5.out).mono ?_); (case side1 => exact HO_3.out); (case side2 => repeat (first | exact (Kd.C_below HR132_3.out HB.out) | (with_reducible refine Kd.C_alloc ?_ _) | (with_reducible refine Kd.C_drewN ?_ _) | (with_reducible refine Kd.C_drew ?_))); (case side3 => exact HC132_3.out); rintro e w12 ⟨v135, rfl, ho0, hb⟩; refine ⟨_, rfl, ?_⟩; have n0_ := Aside0.mk (Kd.R_below (by (with_reducible repeat (first | apply Kd.R_alloc | apply Kd.R_drewN | apply Kd.R_drew)); exact HO_2.out) hb); have n1_ := Aside0.mk (Kd.V_below (by (with_reducible repeat (first | apply Kd.V_alloc | apply Kd.V_drewN | apply Kd.V_drew)); exact HO_3.out) hb); have n2_ := Aside0.mk (Kd.V_lower (Kd.V_mono (ok' := fun k_ => some k_ ≠ (u2 : Value).ownBlock ∧ k_ ≠ gb133) ho0 (fun k_ hk_ => ⟨Or.elim hk_ (fun hs_ => hs_.1) (fun hn_ => (Kd.fresh' (Kd.R_lt (by (with_reducible repeat (first | apply Kd.R_alloc | apply Kd.R_drewN | apply Kd.R_drew)); exact HO_2.out)) k_ hn_)), Or.elim hk_ (fun hs_ => hs_.2) (fun hn_ => (Kd.freshB (g := gb133) (o := .cells #[.int .i64 ((rd_T50 l0 x8_1).f0), .int .i64 ((rd_T50 l0 x8_1).f1), .int .i64 ((rd_T50 l0 x8_1).f2), .slice A132_3 ((rd_T50 l0 x8_1).f3).length c132_3, .string ((rd_T50 l0 x8_1).f4), .int .i64 ((rd_T50 l0 x8_1).f5)] 50 (0, 0)) (by (with_reducible repeat (first | refine blk_drewN ?_ _ | refine blk_drew ?_ | refine blk_alloc ?_ _)); exact BK133.out) k_ hn_))⟩)) (below_size (by repeat (first | (with_reducible first | exact HB.out | apply below_alloc | apply pw_below_drewN | apply below_drew1 | refine below_set ?_ GE133.out) | exact HB.out)))); have n3_ := Aside0.mk (blk_below (g := gb133) (o := .cells #[.int .i64 ((rd_T50 l0 x8_1).f0), .int .i64 ((rd_T50 l0 x8_1).f1), .int .i64 ((rd_T50 l0 x8_1).f2), .slice A132_3 ((rd_T50 l0 x8_1).f3).length c132_3, .string ((rd_T50 l0 x8_1).f4), .int .i64 ((rd_T50 l0 x8_1).f5)] 50 (0, 0)) (by (with_reducible repeat (first | refine blk_drewN ?_ _ | refine blk_drew ?_ | refine blk_alloc ?_ _)); exact BK133.out) hb); have n4_ := Aside0.mk (below_step (by repeat (first | (with_reducible first | exact HB.out | apply below_alloc | apply pw_below_drewN | apply below_drew1 | refine below_set ?_ GE133.out) | exact HB.out)) hb); clear HO_2; clear HO_3; clear BK133; clear HB; have HO_2 := n0_; have HO_3 := n1_; have HO136 := n2_; have BK133 := n3_; have HB := n4_; clear n0_ n1_ n2_ n3_ n4_; (try clear hb); (try clear hb2); (try clear hk); (try clear hi); (try clear ho0); obtain ⟨Ao13, co13, eo13⟩ := Kd.V_slice HO136.out; subst eo13) | ((with_reducible refine gate_builtin (b := .append) (xs := #[.tmp 15, .tmp 18]) rfl ?_); at_builtin; refine Kd.R_append (Kd.int .i64) (w0 := w) w.heap.size rfl (.tmp 15) (.tmp 18) 25 3 (.int .i64 0) 8 rfl Try.underlying25 info3 rfl (by decide) (by omega) u2 x2_1 (t134.length : Int) [.int .i64 (t134.length : Int)] (fun _ => True) (fun _ => False) rfl rfl ?aP (fun _ hk => hk.elim) ?aF ?aO ?aB ?aS ?aL ?_; (case aP => exact rfl); (case aB => exact (by repeat (first | (with_reducible first | exact HB.out | apply below_alloc | apply pw_below_drewN | apply below_drew1 | refine below_set ?_ GE133.out) | exact HB.out))); (case aF => exact (fun _ _ => trivial)); (case aO => exact (by (with_reducible repeat (first | apply Kd.R_alloc | apply Kd.R_drewN | apply Kd.R_drew)); exact HO_2.out)); (case aS => exact (below_size (by repeat (first | (with_reducible first | exact HB.out | apply below_alloc | apply pw_below_drewN | apply below_drew1 | refine below_set ?_ GE133.out) | exact HB.out)))); (case aL => have := LMc6.out; omega); intro v138 w14 ho hb hg hat; rw [← Ny137.out] at ho; have n0_ := Aside0.mk (Kd.V_afterv (ok := (fun k_ => k_ ≠ gb133)) (by (with_reducible repeat (first | apply Kd.V_alloc | apply Kd.V_drewN | apply Kd.V_drew)); exact Kd.V_mono HO_3.out (fun _ hk => ⟨hk.2, hk.1⟩)) hg hat); have n1_ := Aside0.mk (blk_grown (g := gb133) (o := .cells #[.int .i64 ((rd_T50 l0 x8_1).f0), .int .i64 ((rd_T50 l0 x8_1).f1), .int .i64 ((rd_T50 l0 x8_1).f2), .slice A132_3 ((rd_T50 l0 x8_1).f3).length c132_3, .string ((rd_T50 l0 x8_1).f4), .int .i64 ((rd_T50 l0 x8_1).f5)] 50 (0, 0)) (by (with_reducible repeat (first | refine blk_drewN ?_ _ | refine blk_drew ?_ | refine blk_alloc ?_ _)); exact BK133.out) hg (Kd.R_ne HO_2.out BK133.out (by decide))); have n2_ := Aside0.mk (Kd.V_afterv (ok := (fun k_ => k_ ≠ gb133)) (by (with_reducible repeat (first | apply Kd.V_alloc | apply Kd.V_drewN | apply Kd.V_drew)); exact Kd.V_mono HO136.out (fun _ hk => ⟨hk.2, hk.1⟩)) hg hat); have n3_ := Aside0.mk (hb); have n4_ := Aside0.mk (ho); clear HO_3; clear BK133; clear HO136; clear HB; clear HO_2; have HO_3 := n0_; have BK133 := n1_; have HO136 := n2_; have HB := n3_; have HO139 := n4_; clear n0_ n1_ n2_ n3_ n4_; clear ho hb hg hat))
              go_roundg k1
              case measure => have := HK1.out; omega
              case rel => exact ⟨(y137), (t134), (wrap64 (x8_1 + 1)), (by first | rfl | (simp; done) | (simp [*]; done)), H', ⟨by have := HK1.out; omega⟩, ⟨by (with_reducible repeat (first | apply Kd.R_alloc | apply Kd.R_drewN | apply Kd.R_drew)); exact HO139.out⟩, ⟨by (with_reducible repeat (first | apply Kd.V_alloc | apply Kd.V_drewN | apply Kd.V_drew)); exact Kd.V_mono HO136.out (fun _ hk => hk.2)⟩, ⟨by repeat (first | (with_reducible first | exact HB.out | apply below_alloc | apply pw_below_drewN | apply below_drew1 | refine below_set ?_ GE133.out) | exact HB.out)⟩⟩
            · rw [if_neg c6] at H
              exact absurd H (by simp)
          · rw [if_neg c4] at H
            exact absurd H (by simp)
        · rw [if_neg c3] at H
          exact absurd H (by simp)
      · rw [if_neg c2] at H
        have c2b0 : decide (x8_1 < (l0.length : Int)) = false := decide_eq_false c2
        clear c2
        obtain rfl := Option.some.inj H
        go_wp2
        go_ret
        exact ⟨_, by first | rfl | (simp [errW_none, errW_some] <;> rfl) | (simp [*, errW_none, errW_some] <;> rfl), by (with_reducible repeat (first | apply Kd.R_alloc | apply Kd.R_drewN | apply Kd.R_drew)); exact HO_2.out, by repeat (first | (with_reducible first | exact HB.out | apply below_alloc | apply pw_below_drewN | apply below_drew1) | exact HB.out)⟩

/-! ### dolmenlaw13_made: function 16 -/
def dolmenlaw13_made.l0 : Nat → List (S32) → List (S50) → Int → Option ((List (S50)))
  | 0, _, _, _ => none
  | k + 1, x0, x3, x4 => if x4 < (x0.length : Int) then (if 0 ≤ x4 then (if x3.length < 1954687338268 then (dolmenlaw13_made.l0 k x0 (x3 ++ [(⟨(rd_T32 x0 x4).f0, (rd_T32 x0 x4).f1, (rd_T32 x0 x4).f2, (rd_T32 x0 x4).f3, (rd_T32 x0 x4).f4, (rd_T32 x0 x4).f5⟩ : S50)]) (wrap64 (x4 + 1))) else (none)) else (none)) else (some x3)
def dolmenlaw13_made.f (k : Nat) (l0 : List (S32)) : Option ((List (S50))) := dolmenlaw13_made.l0 k l0 ([] : List (S50)) 0
theorem dolmenlaw13_made.mono_l : ∀ k, (∀ y0 y1 y2, LeO (dolmenlaw13_made.l0 k y0 y1 y2) (dolmenlaw13_made.l0 (k + 1) y0 y1 y2))
  | 0 => fun _ _ _ r h => by simp [dolmenlaw13_made.l0] at h
  | k + 1 => by
    have ih0 := dolmenlaw13_made.mono_l k
    · intro y0 y1 y2
      unfold dolmenlaw13_made.l0
      repeat' first
      | (with_reducible exact ih0 _ _ _)
      | (with_reducible exact LeO.refl _)
      | (with_reducible exact LeO.none _)
      | (with_reducible refine LeO.ite ?_ ?_)
      | (with_reducible refine LeO.bind ?_ (fun _ => ?_))
      | exact ih0 _ _ _
      | exact LeO.none _
      | refine LeO.ite ?_ ?_
      | refine LeO.bind ?_ (fun _ => ?_)
theorem dolmenlaw13_made.mono : ∀ a0 k, LeO (dolmenlaw13_made.f k a0) (dolmenlaw13_made.f (k + 1) a0) := by
  intro a0 k
  have ih0 := dolmenlaw13_made.mono_l k
  unfold dolmenlaw13_made.f
  repeat' first
      | (with_reducible exact ih0 _ _ _)
      | (with_reducible exact LeO.refl _)
      | (with_reducible exact LeO.none _)
      | (with_reducible refine LeO.ite ?_ ?_)
      | (with_reducible refine LeO.bind ?_ (fun _ => ?_))
      | exact ih0 _ _ _
      | exact LeO.none _
      | refine LeO.ite ?_ ?_
      | refine LeO.bind ?_ (fun _ => ?_)
set_option maxHeartbeats 8000000 in
set_option maxRecDepth 100000 in
theorem dolmenlaw13_made.calls (k : Nat) (P0_ : Nat → Prop) (A0 : Option Addr) (c0 : Nat) (l0 : List (S32)) (r : List (S50)) (w : World) (hs0 : Kd.V k32 32 w w.heap.size (fun k_ => P0_ k_) (.slice A0 l0.length c0) l0) (h : dolmenlaw13_made.f k l0 = some r) :
    Calls Try.prog 16 #[.slice A0 l0.length c0] w fun e w' => ∃ v0_ : Value, e = .returned (v0_) ∧ Kd.N k50 50 w' w.heap.size (fun k_ => (P0_ k_ ∨ w.heap.size ≤ k_)) v0_ r ∧ Below w.heap.size w w' := by
  have hu32 := Try.underlying32
  have hu50 := Try.underlying50
  have HO0 := Aside0.mk (show Kd.V k32 32 w w.heap.size (fun k_ => (P0_ k_ ∨ w.heap.size ≤ k_)) (.slice A0 l0.length c0) l0 from Kd.V_mono hs0 (fun k_ hk => .inl hk))
  have HB := Aside0.mk (Below.refl w.heap.size w)
  have H : (dolmenlaw13_made.l0 k l0 ([] : List (S50)) 0) = some r := h
  clear h
  have H' := Aside0.mk H
  clear H
  go_enter Try.func16, Try.ntmps16
  go_wp2
  go_loopg [3, 4] k (fun kq v3 v4 w' => ∃ (x3_1 : List (S50)) (x4_1 : Int), v4 = .int .i64 x4_1 ∧ Aside0 (dolmenlaw13_made.l0 kq l0 x3_1 x4_1 = some r) ∧ Aside0 (kq ≤ k) ∧ Aside0 (Kd.V k32 32 w' w.heap.size (fun k_ => (P0_ k_ ∨ w.heap.size ≤ k_) ∧ some k_ ≠ (v3 : Value).ownBlock) (.slice A0 l0.length c0) l0) ∧ Aside0 (Kd.N k50 50 w' w.heap.size (fun k_ => (P0_ k_ ∨ w.heap.size ≤ k_)) v3 x3_1) ∧ Aside0 (Below w.heap.size w w'))
  case atStart => exact ⟨(([] : List (S50))), (0), (by first | rfl | (simp; done) | (simp [*]; done)), H', ⟨Nat.le_refl _⟩, ⟨by (with_reducible repeat (first | apply Kd.V_alloc | apply Kd.V_drewN | apply Kd.V_drew)); exact Kd.V_mono HO0.out (fun _ hk => ⟨hk, (by simp [Value.ownBlock])⟩)⟩, ⟨by first | exact Kd.S_nil _ _ _ _ _ | exact Kd.N_nil _ _ _ _ _ | exact Kd.V_nil _ _ _ _ _ | exact Kd.Q_nil _ _ _ _ _ | exact Kd.R_nil _ _ _ _ _⟩, ⟨by repeat (first | (with_reducible first | exact HB.out | apply below_alloc | apply pw_below_drewN | apply below_drew1) | exact HB.out)⟩⟩
  case round =>
    clear H'
    (try clear c1)
    obtain ⟨x3_1, x4_1, rfl, HA, HK1, HO_0, HO_3, HB⟩ := hrel
    cases gk with
    | zero => exact absurd HA.out (by simp [dolmenlaw13_made.l0])
    | succ k1 =>
      have H := HA.out
      clear HA
      simp only [dolmenlaw13_made.l0] at H
      by_cases c2 : x4_1 < (l0.length : Int)
      · rw [if_pos c2] at H
        have c2b0 : decide (x4_1 < (l0.length : Int)) = true := decide_eq_true c2
        clear c2
        by_cases c3 : 0 ≤ x4_1
        · rw [if_pos c3] at H
          have c3b0 : decide (0 ≤ x4_1) = true := decide_eq_true c3
          clear c3
          by_cases c4 : x3_1.length < 1954687338268
          · rw [if_pos c4] at H
            have LMc4 := Aside0.mk c4
            clear c4
            obtain ⟨y142, hy142⟩ : ∃ y_ : List (S50), y_ = (x3_1 ++ [(⟨(rd_T32 l0 x4_1).f0, (rd_T32 l0 x4_1).f1, (rd_T32 l0 x4_1).f2, (rd_T32 l0 x4_1).f3, (rd_T32 l0 x4_1).f4, (rd_T32 l0 x4_1).f5⟩ : S50)]) := ⟨_, rfl⟩
            replace H : (dolmenlaw13_made.l0 k1 l0 y142 (wrap64 (x4_1 + 1))) = some r := by first | (rw [hy142]; with_reducible exact H) | (have H2_ := (Option.bind_some _ _).symm.trans H; rw [hy142]; with_reducible exact H2_) | (have H2_ := (Option.bind_some _ _).symm.trans H; with_reducible exact H2_) | with_reducible exact H | (rw [hy142]; exact H) | exact H
            have Ny142 := Aside0.mk hy142
            clear hy142
            have H' := Aside0.mk H
            clear H
            have p140 : 0 ≤ (x4_1 : Int) := of_decide_eq_true (by first | (with_reducible assumption) | assumption)
            have q140 : x4_1 < (l0.length : Int) := of_decide_eq_true (by first | (with_reducible assumption) | assumption)
            obtain ⟨ad140, A140_3, c140_3, e140, hx140_0, hx140_1, hx140_2, hx140_3, hx140_4, hx140_5, hl140_3, hi140_3⟩ := at_T32 (Kd.V_reads' HO_0.out).2.2 x4_1 p140 q140
            cases e140
            obtain ⟨ce140, hce140, hMe140, hcc140⟩ := Kd.V_get HO_0.out z32 x4_1 p140 (by first | exact q140 | exact of_decide_eq_true (by first | (with_reducible assumption) | assumption) | (have e_ := (Kd.V_reads' HO_0.out).1; omega))
            obtain ⟨ua140_3, uc140_3, rfl, ul140_3, ge140_3⟩ := k32_openF hMe140
            have hv140_3 := hcc140 3 _ rfl
            rw [add_field _ _ 3 (by omega)] at hv140_3
            replace hv140_3 := Option.some.inj (hv140_3.symm.trans hx140_3)
            injection hv140_3 with hva_ hvn_ hvc_
            rw [hva_] at ge140_3
            rw [hvc_] at ul140_3
            have HL140_3 := Aside0.mk (show Kd.V (Kd.int .u8) 5 _ w.heap.size _ _ ((rd_T32 l0 x4_1).f3) from Kd.V_mk ul140_3 ge140_3)
            clear hva_ hvn_ hvc_ ge140_3 ul140_3
            clear hcc140 hce140
            have HR140_3 := Aside0.mk hi140_3
            have HC140_3 := Aside0.mk hl140_3
            clear hi140_3 hl140_3
            replace p140 := eq_true p140
            replace q140 := eq_true q140
            go_wp2_with (first | ((with_reducible refine gate_dst (N := 5) rfl ?_); refine box_event ?hg (N := 5) ?hd (cs := #[.int .i64 0, .int .i64 0, .int .i64 0, .slice none 0 0, .string (⟨#[]⟩ : ByteArray), .int .i64 0]) (t := 32) ?hr ?_; (case hd => rfl); (case hg => rfl); (case hr => first | (go_simp; done) | (go_simp; rfl)); intro gb141 hg w5 hbox hb; have n0_ := Aside0.mk (Kd.V_below (Kd.V_elderB (by (with_reducible repeat (first | apply Kd.V_alloc | apply Kd.V_drewN | apply Kd.V_drew)); exact HO_0.out) gb141 (Nat.le_of_eq hg.symm)) hb); have n1_ := Aside0.mk (Kd.N_below (Kd.N_elderB (by (with_reducible repeat (first | apply Kd.N_alloc | apply Kd.N_drewN | apply Kd.N_drew)); exact HO_3.out) gb141 (Nat.le_of_eq hg.symm)) hb); have n2_ := Aside0.mk (Kd.V_below (Kd.V_elderB (by (with_reducible repeat (first | apply Kd.V_alloc | apply Kd.V_drewN | apply Kd.V_drew)); exact HL140_3.out) gb141 (Nat.le_of_eq hg.symm)) hb); have n3_ := Aside0.mk (Kd.C_below (by repeat (first | (with_reducible exact HR140_3.out) | (with_reducible refine Kd.C_alloc ?_ _) | (with_reducible refine Kd.C_drewN ?_ _) | (with_reducible refine Kd.C_drew ?_) | exact HR140_3.out)) hb); have n4_ := Aside0.mk (below_step (by repeat (first | (with_reducible first | exact HB.out | apply below_alloc | apply pw_below_drewN | apply below_drew1) | exact HB.out)) hb); have n5_ := Aside0.mk (hbox); have n6_ := Aside0.mk ((by rw [hg]; exact (below_size (by repeat (first | (with_reducible first | exact HB.out | apply below_alloc | apply pw_below_drewN | apply below_drew1) | exact HB.out))) : w.heap.size ≤ gb141)); have n7_ := Aside0.mk ((by rw [hg]; exact (below_size (by repeat (first | (with_reducible first | exact HB.out | apply below_alloc | apply pw_below_drewN | apply below_drew1) | exact HB.out))) : w.heap.size ≤ gb141)); clear HO_0; clear HO_3; clear HL140_3; clear HR140_3; clear HB; have HO_0 := n0_; have HO_3 := n1_; have HL140_3 := n2_; have HR140_3 := n3_; have HB := n4_; have BK141 := n5_; have GW141 := n6_; have GE141 := n7_; clear n0_ n1_ n2_ n3_ n4_ n5_ n6_ n7_; clear hb hbox hg; have hcz6_0 : w5.cell? ⟨gb141, 0, none⟩ = some (.int .i64 0) := (blk_cell BK141.out 0).trans rfl; have hcz6_1 : w5.cell? ⟨gb141, 1, none⟩ = some (.int .i64 0) := (blk_cell BK141.out 1).trans rfl; have hcz6_2 : w5.cell? ⟨gb141, 2, none⟩ = some (.int .i64 0) := (blk_cell BK141.out 2).trans rfl; have hcz6_3 : w5.cell? ⟨gb141, 3, none⟩ = some (.slice none 0 0) := (blk_cell BK141.out 3).trans rfl; have hcz6_4 : w5.cell? ⟨gb141, 4, none⟩ = some (.string (⟨#[]⟩ : ByteArray)) := (blk_cell BK141.out 4).trans rfl; have hcz6_5 : w5.cell? ⟨gb141, 5, none⟩ = some (.int .i64 0) := (blk_cell BK141.out 5).trans rfl; have hfz6_0 := blk_frozen BK141.out 0; have hfz6_1 := blk_frozen BK141.out 1; have hfz6_2 := blk_frozen BK141.out 2; have hfz6_3 := blk_frozen BK141.out 3; have hfz6_4 := blk_frozen BK141.out 4; have hfz6_5 := blk_frozen BK141.out 5) | ((with_reducible refine gate_store (t := 32) (p := 5) rfl ?_); refine store_event (t := 32) (p := 5) (v := ?vo_w7) (w1 := ((((((w5.setCell ⟨gb141, 0, none⟩ (.int .i64 ((rd_T32 l0 x4_1).f0))).setCell ⟨gb141, 1, none⟩ (.int .i64 ((rd_T32 l0 x4_1).f1))).setCell ⟨gb141, 2, none⟩ (.int .i64 ((rd_T32 l0 x4_1).f2))).setCell ⟨gb141, 3, none⟩ (.slice A140_3 ((rd_T32 l0 x4_1).f3).length c140_3)).setCell ⟨gb141, 4, none⟩ (.string ((rd_T32 l0 x4_1).f4))).setCell ⟨gb141, 5, none⟩ (.int .i64 ((rd_T32 l0 x4_1).f5)))) ?hg ?ho ?hn ?hr ?_; (case ho => rfl); (case hg => rfl); (case hn => rfl); (case hr => first | (go_simp; done) | (go_simp; rfl)); intro w7 hw; have n0_ : Aside0 (Kd.V k32 32 w7 w.heap.size (fun k_ => (P0_ k_ ∨ w.heap.size ≤ k_) ∧ some k_ ≠ (u3 : Value).ownBlock ∧ k_ ≠ gb141) (.slice (some ad140) l0.length c0) l0) := ⟨(by rw [hw]; exact (by (with_reducible repeat (first | apply Kd.V_alloc | apply Kd.V_drewN | apply Kd.V_drew)); exact Kd.V_mono (Kd.V_far (p := ⟨gb141, 5, none⟩) (Kd.V_far (p := ⟨gb141, 4, none⟩) (Kd.V_far (p := ⟨gb141, 3, none⟩) (Kd.V_far (p := ⟨gb141, 2, none⟩) (Kd.V_far (p := ⟨gb141, 1, none⟩) (Kd.V_far (p := ⟨gb141, 0, none⟩) (Kd.V_mono HO_0.out (fun k_ hk => (⟨hk, hk.2⟩ : _ ∧ k_ ≠ gb141))) (fun _ hk => hk.2) (.int .i64 ((rd_T32 l0 x4_1).f0))) (fun _ hk => hk.2) (.int .i64 ((rd_T32 l0 x4_1).f1))) (fun _ hk => hk.2) (.int .i64 ((rd_T32 l0 x4_1).f2))) (fun _ hk => hk.2) (.slice A140_3 ((rd_T32 l0 x4_1).f3).length c140_3)) (fun _ hk => hk.2) (.string ((rd_T32 l0 x4_1).f4))) (fun _ hk => hk.2) (.int .i64 ((rd_T32 l0 x4_1).f5))) (fun _ hk => ⟨hk.1.1.1, ⟨hk.1.1.2, hk.1.2⟩⟩)))⟩; have n1_ : Aside0 (Kd.N k50 50 w7 w.heap.size (fun k_ => (P0_ k_ ∨ w.heap.size ≤ k_) ∧ k_ ≠ gb141) u3 x3_1) := ⟨(by rw [hw]; exact (by (with_reducible repeat (first | apply Kd.N_alloc | apply Kd.N_drewN | apply Kd.N_drew)); exact Kd.N_mono (Kd.N_far (p := ⟨gb141, 5, none⟩) (Kd.N_far (p := ⟨gb141, 4, none⟩) (Kd.N_far (p := ⟨gb141, 3, none⟩) (Kd.N_far (p := ⟨gb141, 2, none⟩) (Kd.N_far (p := ⟨gb141, 1, none⟩) (Kd.N_far (p := ⟨gb141, 0, none⟩) (Kd.N_mono HO_3.out (fun k_ hk => (⟨hk, hk.2⟩ : _ ∧ k_ ≠ gb141))) (fun _ hk => hk.2) (.int .i64 ((rd_T32 l0 x4_1).f0))) (fun _ hk => hk.2) (.int .i64 ((rd_T32 l0 x4_1).f1))) (fun _ hk => hk.2) (.int .i64 ((rd_T32 l0 x4_1).f2))) (fun _ hk => hk.2) (.slice A140_3 ((rd_T32 l0 x4_1).f3).length c140_3)) (fun _ hk => hk.2) (.string ((rd_T32 l0 x4_1).f4))) (fun _ hk => hk.2) (.int .i64 ((rd_T32 l0 x4_1).f5))) (fun _ hk => ⟨hk.1.1, hk.1.2⟩)))⟩; have n2_ : Aside0 (Kd.V (Kd.int .u8) 5 w7 w.heap.size (fun k_ => (P0_ k_ ∨ w.heap.size ≤ k_) ∧ some k_ ≠ (u3 : Value).ownBlock ∧ k_ ≠ gb141) (.slice A140_3 ((rd_T32 l0 x4_1).f3).length c140_3) ((rd_T32 l0 x4_1).f3)) := ⟨(by rw [hw]; exact (by (with_reducible repeat (first | apply Kd.V_alloc | apply Kd.V_drewN | apply Kd.V_drew)); exact Kd.V_mono (Kd.V_far (p := ⟨gb141, 5, none⟩) (Kd.V_far (p := ⟨gb141, 4, none⟩) (Kd.V_far (p := ⟨gb141, 3, none⟩) (Kd.V_far (p := ⟨gb141, 2, none⟩) (Kd.V_far (p := ⟨gb141, 1, none⟩) (Kd.V_far (p := ⟨gb141, 0, none⟩) (Kd.V_mono HL140_3.out (fun k_ hk => (⟨hk, hk.2⟩ : _ ∧ k_ ≠ gb141))) (fun _ hk => hk.2) (.int .i64 ((rd_T32 l0 x4_1).f0))) (fun _ hk => hk.2) (.int .i64 ((rd_T32 l0 x4_1).f1))) (fun _ hk => hk.2) (.int .i64 ((rd_T32 l0 x4_1).f2))) (fun _ hk => hk.2) (.slice A140_3 ((rd_T32 l0 x4_1).f3).length c140_3)) (fun _ hk => hk.2) (.string ((rd_T32 l0 x4_1).f4))) (fun _ hk => hk.2) (.int .i64 ((rd_T32 l0 x4_1).f5))) (fun _ hk => ⟨hk.1.1.1, ⟨hk.1.1.2, hk.1.2⟩⟩)))⟩; have n3_ : Aside0 (w7.heap[gb141]? = some (.cells #[.int .i64 ((rd_T32 l0 x4_1).f0), .int .i64 ((rd_T32 l0 x4_1).f1), .int .i64 ((rd_T32 l0 x4_1).f2), .slice A140_3 ((rd_T32 l0 x4_1).f3).length c140_3, .string ((rd_T32 l0 x4_1).f4), .int .i64 ((rd_T32 l0 x4_1).f5)] 32 (0, 0))) := ⟨(by rw [hw]; exact (by (with_reducible repeat (first | refine blk_drewN ?_ _ | refine blk_drew ?_ | refine blk_alloc ?_ _)); refine blk_put (cs := #[.int .i64 ((rd_T32 l0 x4_1).f0), .int .i64 ((rd_T32 l0 x4_1).f1), .int .i64 ((rd_T32 l0 x4_1).f2), .slice A140_3 ((rd_T32 l0 x4_1).f3).length c140_3, .string ((rd_T32 l0 x4_1).f4), .int .i64 0]) ?_ 5 _ rfl; (with_reducible repeat (first | refine blk_drewN ?_ _ | refine blk_drew ?_ | refine blk_alloc ?_ _)); refine blk_put (cs := #[.int .i64 ((rd_T32 l0 x4_1).f0), .int .i64 ((rd_T32 l0 x4_1).f1), .int .i64 ((rd_T32 l0 x4_1).f2), .slice A140_3 ((rd_T32 l0 x4_1).f3).length c140_3, .string (⟨#[]⟩ : ByteArray), .int .i64 0]) ?_ 4 _ rfl; (with_reducible repeat (first | refine blk_drewN ?_ _ | refine blk_drew ?_ | refine blk_alloc ?_ _)); refine blk_put (cs := #[.int .i64 ((rd_T32 l0 x4_1).f0), .int .i64 ((rd_T32 l0 x4_1).f1), .int .i64 ((rd_T32 l0 x4_1).f2), .slice none 0 0, .string (⟨#[]⟩ : ByteArray), .int .i64 0]) ?_ 3 _ rfl; (with_reducible repeat (first | refine blk_drewN ?_ _ | refine blk_drew ?_ | refine blk_alloc ?_ _)); refine blk_put (cs := #[.int .i64 ((rd_T32 l0 x4_1).f0), .int .i64 ((rd_T32 l0 x4_1).f1), .int .i64 0, .slice none 0 0, .string (⟨#[]⟩ : ByteArray), .int .i64 0]) ?_ 2 _ rfl; (with_reducible repeat (first | refine blk_drewN ?_ _ | refine blk_drew ?_ | refine blk_alloc ?_ _)); refine blk_put (cs := #[.int .i64 ((rd_T32 l0 x4_1).f0), .int .i64 0, .int .i64 0, .slice none 0 0, .string (⟨#[]⟩ : ByteArray), .int .i64 0]) ?_ 1 _ rfl; (with_reducible repeat (first | refine blk_drewN ?_ _ | refine blk_drew ?_ | refine blk_alloc ?_ _)); refine blk_put (cs := #[.int .i64 0, .int .i64 0, .int .i64 0, .slice none 0 0, .string (⟨#[]⟩ : ByteArray), .int .i64 0]) ?_ 0 _ rfl; (with_reducible repeat (first | refine blk_drewN ?_ _ | refine blk_drew ?_ | refine blk_alloc ?_ _)); exact BK141.out))⟩; have n4_ : Aside0 (Below w.heap.size w w7) := ⟨(by rw [hw]; exact (by repeat (first | (with_reducible first | exact HB.out | apply below_alloc | apply pw_below_drewN | apply below_drew1 | refine below_set ?_ GE141.out) | exact HB.out)))⟩; clear hw; clear HO_0; clear HO_3; clear HL140_3; clear BK141; clear HB; have HO_0 := n0_; have HO_3 := n1_; have HL140_3 := n2_; have BK141 := n3_; have HB := n4_; clear n0_ n1_ n2_ n3_ n4_; have hcz8_0 : w7.cell? ⟨gb141, 0, none⟩ = some (.int .i64 ((rd_T32 l0 x4_1).f0)) := (blk_cell BK141.out 0).trans rfl; have hcz8_1 : w7.cell? ⟨gb141, 1, none⟩ = some (.int .i64 ((rd_T32 l0 x4_1).f1)) := (blk_cell BK141.out 1).trans rfl; have hcz8_2 : w7.cell? ⟨gb141, 2, none⟩ = some (.int .i64 ((rd_T32 l0 x4_1).f2)) := (blk_cell BK141.out 2).trans rfl; have hcz8_3 : w7.cell? ⟨gb141, 3, none⟩ = some (.slice A140_3 ((rd_T32 l0 x4_1).f3).length c140_3) := (blk_cell BK141.out 3).trans rfl; have hcz8_4 : w7.cell? ⟨gb141, 4, none⟩ = some (.string ((rd_T32 l0 x4_1).f4)) := (blk_cell BK141.out 4).trans rfl; have hcz8_5 : w7.cell? ⟨gb141, 5, none⟩ = some (.int .i64 ((rd_T32 l0 x4_1).f5)) := (blk_cell BK141.out 5).trans rfl; have hfz8_0 := blk_frozen BK141.out 0; have hfz8_1 := blk_frozen BK141.out 1; have hfz8_2 := blk_frozen BK141.out 2; have hfz8_3 := blk_frozen BK141.out 3; have hfz8_4 := blk_frozen BK141.out 4; have hfz8_5 := blk_frozen BK141.out 5) | ((with_reducible refine gate_builtin (b := .append) (xs := #[.tmp 16, .tmp 30]) rfl ?_); at_builtin; refine Kd.N_append k50 (w0 := w) w.heap.size rfl (.tmp 16) (.tmp 30) 27 50 (.agg #[(.int .i64 0), (.int .i64 0), (.int .i64 0), (.slice none 0 0), (.string ⟨#[]⟩), (.int .i64 0)]) 72 rfl Try.underlying27 info50 rfl (by decide) (by omega) u3 x3_1 (⟨(rd_T32 l0 x4_1).f0, (rd_T32 l0 x4_1).f1, (rd_T32 l0 x4_1).f2, (rd_T32 l0 x4_1).f3, (rd_T32 l0 x4_1).f4, (rd_T32 l0 x4_1).f5⟩ : S50) [.int .i64 ((rd_T32 l0 x4_1).f0), .int .i64 ((rd_T32 l0 x4_1).f1), .int .i64 ((rd_T32 l0 x4_1).f2), .slice A140_3 ((rd_T32 l0 x4_1).f3).length c140_3, .string ((rd_T32 l0 x4_1).f4), .int .i64 ((rd_T32 l0 x4_1).f5)] (fun k_ => (P0_ k_ ∨ w.heap.size ≤ k_) ∧ k_ ≠ gb141) (fun k_ => ((fun k_ => (P0_ k_ ∨ w.heap.size ≤ k_) ∧ k_ ≠ gb141)) k_ ∧ some k_ ≠ (u3 : Value).ownBlock) rfl rfl ?aP (fun _ hk => hk) ?aF ?aO ?aB ?aS ?aL ?_; (case aP => exact (k50_mkF _ _ (⟨(rd_T32 l0 x4_1).f0, (rd_T32 l0 x4_1).f1, (rd_T32 l0 x4_1).f2, (rd_T32 l0 x4_1).f3, (rd_T32 l0 x4_1).f4, (rd_T32 l0 x4_1).f5⟩ : S50) (Kd.V_reads' (Kd.V_mono (ok' := (fun k_ => ((fun k_ => (P0_ k_ ∨ w.heap.size ≤ k_) ∧ k_ ≠ gb141)) k_ ∧ some k_ ≠ (u3 : Value).ownBlock)) (HL140_3.out) (fun k_ hk => ⟨⟨hk.1, hk.2.2⟩, hk.2.1⟩))).2.1 (Kd.V_F (Kd.V_mono (ok' := (fun k_ => ((fun k_ => (P0_ k_ ∨ w.heap.size ≤ k_) ∧ k_ ≠ gb141)) k_ ∧ some k_ ≠ (u3 : Value).ownBlock)) (HL140_3.out) (fun k_ hk => ⟨⟨hk.1, hk.2.2⟩, hk.2.1⟩))))); (case aB => exact (by repeat (first | (with_reducible first | exact HB.out | apply below_alloc | apply pw_below_drewN | apply below_drew1 | refine below_set ?_ GE141.out) | exact HB.out))); (case aF => exact (fun k_ hk => ⟨(.inr (Nat.le_trans (below_size (by repeat (first | (with_reducible first | exact HB.out | apply below_alloc | apply pw_below_drewN | apply below_drew1 | refine below_set ?_ GE141.out) | exact HB.out))) hk)), Kd.freshB (g := gb141) (o := .cells #[.int .i64 ((rd_T32 l0 x4_1).f0), .int .i64 ((rd_T32 l0 x4_1).f1), .int .i64 ((rd_T32 l0 x4_1).f2), .slice A140_3 ((rd_T32 l0 x4_1).f3).length c140_3, .string ((rd_T32 l0 x4_1).f4), .int .i64 ((rd_T32 l0 x4_1).f5)] 32 (0, 0)) (by (with_reducible repeat (first | refine blk_drewN ?_ _ | refine blk_drew ?_ | refine blk_alloc ?_ _)); exact BK141.out) k_ hk⟩)); (case aO => exact (by (with_reducible repeat (first | apply Kd.N_alloc | apply Kd.N_drewN | apply Kd.N_drew)); exact HO_3.out)); (case aS => exact (below_size (by repeat (first | (with_reducible first | exact HB.out | apply below_alloc | apply pw_below_drewN | apply below_drew1 | refine below_set ?_ GE141.out) | exact HB.out)))); (case aL => have := LMc4.out; omega); intro v143 w9 ho hb hg hat; rw [← Ny142.out] at ho; have n0_ := Aside0.mk (Kd.V_afterv (ok := (fun k_ => (P0_ k_ ∨ w.heap.size ≤ k_) ∧ k_ ≠ gb141)) (by (with_reducible repeat (first | apply Kd.V_alloc | apply Kd.V_drewN | apply Kd.V_drew)); exact Kd.V_mono HO_0.out (fun _ hk => ⟨⟨hk.1, hk.2.2⟩, hk.2.1⟩)) hg hat); have n1_ := Aside0.mk (Kd.V_afterv (ok := (fun k_ => (P0_ k_ ∨ w.heap.size ≤ k_) ∧ k_ ≠ gb141)) (by (with_reducible repeat (first | apply Kd.V_alloc | apply Kd.V_drewN | apply Kd.V_drew)); exact Kd.V_mono HL140_3.out (fun _ hk => ⟨⟨hk.1, hk.2.2⟩, hk.2.1⟩)) hg hat); have n2_ := Aside0.mk (blk_grown (g := gb141) (o := .cells #[.int .i64 ((rd_T32 l0 x4_1).f0), .int .i64 ((rd_T32 l0 x4_1).f1), .int .i64 ((rd_T32 l0 x4_1).f2), .slice A140_3 ((rd_T32 l0 x4_1).f3).length c140_3, .string ((rd_T32 l0 x4_1).f4), .int .i64 ((rd_T32 l0 x4_1).f5)] 32 (0, 0)) (by (with_reducible repeat (first | refine blk_drewN ?_ _ | refine blk_drew ?_ | refine blk_alloc ?_ _)); exact BK141.out) hg (Kd.N_ne HO_3.out BK141.out (by decide))); have n3_ := Aside0.mk (hb); have n4_ := Aside0.mk (ho); clear HO_0; clear HL140_3; clear BK141; clear HB; clear HO_3; have HO_0 := n0_; have HL140_3 := n1_; have BK141 := n2_; have HB := n3_; have HO144 := n4_; clear n0_ n1_ n2_ n3_ n4_; clear ho hb hg hat))
            go_roundg k1
            case measure => have := HK1.out; omega
            case rel => exact ⟨(y142), (wrap64 (x4_1 + 1)), (by first | rfl | (simp; done) | (simp [*]; done)), H', ⟨by have := HK1.out; omega⟩, ⟨by (with_reducible repeat (first | apply Kd.V_alloc | apply Kd.V_drewN | apply Kd.V_drew)); exact Kd.V_mono HO_0.out (fun _ hk => ⟨hk.1.1, hk.2⟩)⟩, ⟨by (with_reducible repeat (first | apply Kd.N_alloc | apply Kd.N_drewN | apply Kd.N_drew)); exact Kd.N_mono HO144.out (fun _ hk => hk.1)⟩, ⟨by repeat (first | (with_reducible first | exact HB.out | apply below_alloc | apply pw_below_drewN | apply below_drew1 | refine below_set ?_ GE141.out) | exact HB.out)⟩⟩
          · rw [if_neg c4] at H
            exact absurd H (by simp)
        · rw [if_neg c3] at H
          exact absurd H (by simp)
      · rw [if_neg c2] at H
        have c2b0 : decide (x4_1 < (l0.length : Int)) = false := decide_eq_false c2
        clear c2
        obtain rfl := Option.some.inj H
        go_wp2
        go_ret
        exact ⟨_, by first | rfl | (simp [errW_none, errW_some] <;> rfl) | (simp [*, errW_none, errW_some] <;> rfl), by (with_reducible repeat (first | apply Kd.N_alloc | apply Kd.N_drewN | apply Kd.N_drew)); exact HO_3.out, by repeat (first | (with_reducible first | exact HB.out | apply below_alloc | apply pw_below_drewN | apply below_drew1) | exact HB.out)⟩

end Go.Proofs.Ytacdocchcfbgcaa.Q
