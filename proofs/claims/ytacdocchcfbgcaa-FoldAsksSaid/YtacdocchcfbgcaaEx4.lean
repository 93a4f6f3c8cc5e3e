-- printed by wip/mp.py (the kit's print, with given functions); Lean checks it
import Derived.Test.YtacdocchcfbgcaaEx0
import Derived.Test.YtacdocchcfbgcaaEx3
namespace Go.Proofs.Ytacdocchcfbgcaa.Q
open Go.RowKit Go.Proofs.YtacdocchcfbgcaaW.PrintWords Go.Proofs.YtacdocchcfbgcaaW.PrintLast Go.Proofs.YtacdocchcfbgcaaW.PrintMore
attribute [local go_sem] max2_int min2_int max_two min_two max_three min_three max_four min_four   -- for this text's walks alone
set_option linter.unusedVariables false
set_option linter.unusedSimpArgs false

/-! ### entry_Check: function 46 -/
def entry_Check.j0 : Nat → Bool → Int → Int → Int → List Int → ByteArray → Int → Option (Option Int)
  | 0, _, _, _, _, _, _, _ => none
  | k + 1, x3, x110000, x110001, x110002, x110003, x110004, x110005 => if x3 = true then ((entry_within.f (x110004.size : Int) 1 12).bind fun t115 => (if t115 = true then (some none) else (some (some 1)))) else (some (some 1))
def entry_Check.f (k : Nat) (a0_0 : Int) (a0_1 : Int) (a0_2 : Int) (l0_3 : List Int) (a0_4 : ByteArray) (a0_5 : Int) : Option (Option Int) := (entry_within.f a0_1 1 1099511627776).bind fun t110 => (if a0_0 = 1 then (if t110 = true then (if (l0_3.length : Int) > 0 then (if (l0_3.length : Int) ≤ 2000 then (if a0_2 ≤ (wrap64 (2000 - (l0_3.length : Int))) then ((entry_within.f a0_2 0 2000).bind fun t111 => (if t111 = true then (some none) else (some (some 1)))) else (some (some 1))) else (some (some 1))) else (some (some 1))) else (some (some 1))) else (if a0_0 = 2 then (if t110 = true then ((entry_within.f a0_2 0 2000).bind fun t112 => (if t112 = true then (some none) else (some (some 1)))) else (some (some 1))) else (if a0_0 = 3 then (if t110 = true then ((entry_within.f a0_5 1 1073741824).bind fun t113 => (entry_Check.j0 k t113 a0_0 a0_1 a0_2 l0_3 a0_4 a0_5)) else (entry_Check.j0 k false a0_0 a0_1 a0_2 l0_3 a0_4 a0_5)) else (if a0_0 = 4 then (entry_Check.j0 k t110 a0_0 a0_1 a0_2 l0_3 a0_4 a0_5) else (if a0_0 = 5 then (if t110 = true then ((entry_within.f a0_5 1 1073741824).bind fun t114 => (if t114 = true then (some none) else (some (some 1)))) else (some (some 1))) else (some (some 1)))))))
theorem entry_Check.mono_l : ∀ k, (∀ y0 y1 y2 y3 y4 y5 y6, LeO (entry_Check.j0 k y0 y1 y2 y3 y4 y5 y6) (entry_Check.j0 (k + 1) y0 y1 y2 y3 y4 y5 y6))
  | 0 => fun _ _ _ _ _ _ _ r h => by simp [entry_Check.j0] at h
  | k + 1 => by
    have ih0 := entry_Check.mono_l k
    · intro y0 y1 y2 y3 y4 y5 y6
      unfold entry_Check.j0
      repeat' first
      | (with_reducible exact ih0 _ _ _ _ _ _ _)
      | (with_reducible exact LeO.refl _)
      | (with_reducible exact LeO.none _)
      | (with_reducible refine LeO.ite ?_ ?_)
      | (with_reducible refine LeO.bind ?_ (fun _ => ?_))
      | exact ih0 _ _ _ _ _ _ _
      | exact LeO.none _
      | refine LeO.ite ?_ ?_
      | refine LeO.bind ?_ (fun _ => ?_)
theorem entry_Check.mono : ∀ a0 a1 a2 a3 a4 a5 k, LeO (entry_Check.f k a0 a1 a2 a3 a4 a5) (entry_Check.f (k + 1) a0 a1 a2 a3 a4 a5) := by
  intro a0 a1 a2 a3 a4 a5 k
  have ih0 := entry_Check.mono_l k
  unfold entry_Check.f
  repeat' first
      | (with_reducible exact ih0 _ _ _ _ _ _ _)
      | (with_reducible exact LeO.refl _)
      | (with_reducible exact LeO.none _)
      | (with_reducible refine LeO.ite ?_ ?_)
      | (with_reducible refine LeO.bind ?_ (fun _ => ?_))
      | exact ih0 _ _ _ _ _ _ _
      | exact LeO.none _
      | refine LeO.ite ?_ ?_
      | refine LeO.bind ?_ (fun _ => ?_)
set_option maxHeartbeats 8000000 in
set_option maxRecDepth 100000 in
theorem entry_Check.calls (k : Nat) (a0_0 : Int) (a0_1 : Int) (a0_2 : Int) (A0_3 : Option Addr) (c0_3 : Nat) (l0_3 : List Int) (a0_4 : ByteArray) (a0_5 : Int) (r : Option Int) (w : World) (hr0_3 : Kd.C (Kd.int .u8) w A0_3 l0_3.length l0_3) (hc0_3 : l0_3.length ≤ c0_3) (h : entry_Check.f k a0_0 a0_1 a0_2 l0_3 a0_4 a0_5 = some r) :
    Calls Try.prog 46 #[.agg #[.int .i64 a0_0, .int .i64 a0_1, .int .i64 a0_2, .slice A0_3 l0_3.length c0_3, .string a0_4, .int .i64 a0_5]] w fun e w' => e = .returned (errW r) ∧ Below w.heap.size w w' := by
  have hu50 := Try.underlying50
  have hu44 := Try.underlying44
  have hu90 := Try.underlying90
  have HR0_3 := Aside0.mk hr0_3
  have HC0_3 := Aside0.mk hc0_3
  clear hr0_3 hc0_3
  have HB := Aside0.mk (Below.refl w.heap.size w)
  have H : ((entry_within.f a0_1 1 1099511627776).bind fun t110 => (if a0_0 = 1 then (if t110 = true then (if (l0_3.length : Int) > 0 then (if (l0_3.length : Int) ≤ 2000 then (if a0_2 ≤ (wrap64 (2000 - (l0_3.length : Int))) then ((entry_within.f a0_2 0 2000).bind fun t111 => (if t111 = true then (some none) else (some (some 1)))) else (some (some 1))) else (some (some 1))) else (some (some 1))) else (some (some 1))) else (if a0_0 = 2 then (if t110 = true then ((entry_within.f a0_2 0 2000).bind fun t112 => (if t112 = true then (some none) else (some (some 1)))) else (some (some 1))) else (if a0_0 = 3 then (if t110 = true then ((entry_within.f a0_5 1 1073741824).bind fun t113 => (entry_Check.j0 k t113 a0_0 a0_1 a0_2 l0_3 a0_4 a0_5)) else (entry_Check.j0 k false a0_0 a0_1 a0_2 l0_3 a0_4 a0_5)) else (if a0_0 = 4 then (entry_Check.j0 k t110 a0_0 a0_1 a0_2 l0_3 a0_4 a0_5) else (if a0_0 = 5 then (if t110 = true then ((entry_within.f a0_5 1 1073741824).bind fun t114 => (if t114 = true then (some none) else (some (some 1)))) else (some (some 1))) else (some (some 1)))))))) = some r := h
  clear h
  replace H := Option.bind_eq_some_iff.mp H
  obtain ⟨t110, A20, H⟩ := H
  replace H : (if a0_0 = 1 then (if t110 = true then (if (l0_3.length : Int) > 0 then (if (l0_3.length : Int) ≤ 2000 then (if a0_2 ≤ (wrap64 (2000 - (l0_3.length : Int))) then ((entry_within.f a0_2 0 2000).bind fun t111 => (if t111 = true then (some none) else (some (some 1)))) else (some (some 1))) else (some (some 1))) else (some (some 1))) else (some (some 1))) else (if a0_0 = 2 then (if t110 = true then ((entry_within.f a0_2 0 2000).bind fun t112 => (if t112 = true then (some none) else (some (some 1)))) else (some (some 1))) else (if a0_0 = 3 then (if t110 = true then ((entry_within.f a0_5 1 1073741824).bind fun t113 => (entry_Check.j0 k t113 a0_0 a0_1 a0_2 l0_3 a0_4 a0_5)) else (entry_Check.j0 k false a0_0 a0_1 a0_2 l0_3 a0_4 a0_5)) else (if a0_0 = 4 then (entry_Check.j0 k t110 a0_0 a0_1 a0_2 l0_3 a0_4 a0_5) else (if a0_0 = 5 then (if t110 = true then ((entry_within.f a0_5 1 1073741824).bind fun t114 => (if t114 = true then (some none) else (some (some 1)))) else (some (some 1))) else (some (some 1))))))) = some r := H
  have A2 := Aside0.mk A20
  clear A20
  have HC3 := Aside0.mk H
  clear H
  go_enter Try.func46, Try.ntmps46
  go_upto_block 4 with (first | ((with_reducible refine gate_dst (N := 1) rfl ?_); (try (refine gate_guard (by rfl) ?_; dsimp only)); refine box_event ?hg (N := 1) ?hd (cs := #[.int .i64 a0_0, .int .i64 a0_1, .int .i64 a0_2, .slice A0_3 l0_3.length c0_3, .string a0_4, .int .i64 a0_5]) (t := 50) ?hr ?_; (case hd => rfl); (case hg => rfl); (case hr => first | (go_simp; done) | (go_simp; rfl)); intro gb109 hg w4 hbox hb; have n0_ := Aside0.mk (below_step (by repeat (first | (with_reducible first | exact HB.out | apply below_alloc | apply pw_below_drewN | apply below_drew1) | exact HB.out)) hb); have n1_ := Aside0.mk (hbox); have n2_ := Aside0.mk ((by rw [hg]; exact (below_size (by repeat (first | (with_reducible first | exact HB.out | apply below_alloc | apply pw_below_drewN | apply below_drew1) | exact HB.out))) : w.heap.size ≤ gb109)); have n3_ := Aside0.mk ((by rw [hg]; exact (below_size (by repeat (first | (with_reducible first | exact HB.out | apply below_alloc | apply pw_below_drewN | apply below_drew1) | exact HB.out))) : w.heap.size ≤ gb109)); clear HB; have HB := n0_; have BK109 := n1_; have GW109 := n2_; have GE109 := n3_; clear n0_ n1_ n2_ n3_; clear hb hbox hg; have hcz5_0 : w4.cell? ⟨gb109, 0, none⟩ = some (.int .i64 a0_0) := (blk_cell BK109.out 0).trans rfl; have hcz5_1 : w4.cell? ⟨gb109, 1, none⟩ = some (.int .i64 a0_1) := (blk_cell BK109.out 1).trans rfl; have hcz5_2 : w4.cell? ⟨gb109, 2, none⟩ = some (.int .i64 a0_2) := (blk_cell BK109.out 2).trans rfl; have hcz5_3 : w4.cell? ⟨gb109, 3, none⟩ = some (.slice A0_3 l0_3.length c0_3) := (blk_cell BK109.out 3).trans rfl; have hcz5_4 : w4.cell? ⟨gb109, 4, none⟩ = some (.string a0_4) := (blk_cell BK109.out 4).trans rfl; have hcz5_5 : w4.cell? ⟨gb109, 5, none⟩ = some (.int .i64 a0_5) := (blk_cell BK109.out 5).trans rfl; have hfz5_0 := blk_frozen BK109.out 0; have hfz5_1 := blk_frozen BK109.out 1; have hfz5_2 := blk_frozen BK109.out 2; have hfz5_3 := blk_frozen BK109.out 3; have hfz5_4 := blk_frozen BK109.out 4; have hfz5_5 := blk_frozen BK109.out 5) | ((with_reducible refine gate_callee (f := 59) rfl ?_); refine goesL_ (some 6) rfl rfl Try.func59 (by kernel_rfl) rfl #[.int .i64 a0_1, .int .i64 1, .int .i64 1099511627776] rfl (by (try simp only [List.map_toArray, List.map_cons, List.map_nil]); first | done | rfl | (simp only [List.length_drop, List.length_take]; rfl)) ?_; (with_reducible refine (entry_within.calls a0_1 1 1099511627776 t110 _ A2.out).mono ?_); rintro e w' ⟨rfl, ⟨nd, rfl⟩⟩; refine ⟨_, rfl, ?_⟩))
  (try simp only [Act.put, List.setIfInBounds_toArray, List.set_cons_zero, List.set_cons_succ])
  go_cut [3] (fun v3 wc => ∃ (kq : Nat) (x3_2 : Bool), v3 = .bool x3_2 ∧ Aside0 (entry_Check.j0 kq x3_2 a0_0 a0_1 a0_2 l0_3 a0_4 a0_5 = some r) ∧ Aside0 (kq ≤ k) ∧ Aside0 (wc.heap[gb109]? = some (.cells #[.int .i64 a0_0, .int .i64 a0_1, .int .i64 a0_2, (.slice A0_3 l0_3.length c0_3), .string a0_4, .int .i64 a0_5] 50 (0, 0))) ∧ Aside0 (Below w.heap.size w wc))
  case first =>
    have H := HC3.out
    clear HC3
    by_cases c6 : a0_0 = 1
    · rw [if_pos c6] at H
      have c6b0 : (a0_0 == 1) = true := beq_iff_eq.mpr c6
      have c6b1 : (a0_0 != 1) = false := bne_eq_false_iff_eq.mpr c6
      clear c6
      (first | rw [c6b0] | (simp only [i64_w, i32_w]; rw [c6b0]) | skip)
      by_cases c7 : t110 = true
      · subst c7
        have H1 : (if (l0_3.length : Int) > 0 then (if (l0_3.length : Int) ≤ 2000 then (if a0_2 ≤ (wrap64 (2000 - (l0_3.length : Int))) then ((entry_within.f a0_2 0 2000).bind fun t111 => (if t111 = true then (some none) else (some (some 1)))) else (some (some 1))) else (some (some 1))) else (some (some 1))) = some r := by rw [if_pos rfl] at H; exact H
        clear H
        have H := H1
        clear H1
        by_cases c8 : (l0_3.length : Int) > 0
        · rw [if_pos c8] at H
          have c8b0 : decide (0 < (l0_3.length : Int)) = true := decide_eq_true c8
          have c8b1 : decide (0 < l0_3.length) = true := decide_eq_true (by omega)
          clear c8
          by_cases c9 : (l0_3.length : Int) ≤ 2000
          · rw [if_pos c9] at H
            have c9b0 : decide ((l0_3.length : Int) ≤ 2000) = true := decide_eq_true c9
            have c9b1 : decide (l0_3.length ≤ 2000) = true := decide_eq_true (by omega)
            clear c9
            by_cases c10 : a0_2 ≤ (wrap64 (2000 - (l0_3.length : Int)))
            · rw [if_pos c10] at H
              have c10b0 : decide (a0_2 ≤ (wrap64 (2000 - (l0_3.length : Int)))) = true := decide_eq_true c10
              clear c10
              replace H := Option.bind_eq_some_iff.mp H
              obtain ⟨t111, A110, H⟩ := H
              replace H : (if t111 = true then (some none) else (some (some 1))) = some r := H
              have A11 := Aside0.mk A110
              clear A110
              by_cases c12 : t111 = true
              · subst c12
                have H1 : (some none) = some r := by rw [if_pos rfl] at H; exact H
                clear H
                have H := H1
                clear H1
                obtain rfl := Option.some.inj H
                have hcz13_0 : w4.cell? ⟨gb109, 0, none⟩ = some (.int .i64 a0_0) := (blk_cell BK109.out 0).trans rfl
                have hcz13_1 : w4.cell? ⟨gb109, 1, none⟩ = some (.int .i64 a0_1) := (blk_cell BK109.out 1).trans rfl
                have hcz13_2 : w4.cell? ⟨gb109, 2, none⟩ = some (.int .i64 a0_2) := (blk_cell BK109.out 2).trans rfl
                have hcz13_3 : w4.cell? ⟨gb109, 3, none⟩ = some (.slice A0_3 l0_3.length c0_3) := (blk_cell BK109.out 3).trans rfl
                have hcz13_4 : w4.cell? ⟨gb109, 4, none⟩ = some (.string a0_4) := (blk_cell BK109.out 4).trans rfl
                have hcz13_5 : w4.cell? ⟨gb109, 5, none⟩ = some (.int .i64 a0_5) := (blk_cell BK109.out 5).trans rfl
                have hfz13_0 := blk_frozen BK109.out 0
                have hfz13_1 := blk_frozen BK109.out 1
                have hfz13_2 := blk_frozen BK109.out 2
                have hfz13_3 := blk_frozen BK109.out 3
                have hfz13_4 := blk_frozen BK109.out 4
                have hfz13_5 := blk_frozen BK109.out 5
                go_wp2_with (first | (go_at_call 59; (with_reducible refine (entry_within.calls a0_2 0 2000 true _ A11.out).mono ?_); rintro e w' ⟨rfl, ⟨nd, rfl⟩⟩))
                go_ret
                exact ⟨by first | rfl | (simp [errW_none, errW_some] <;> rfl) | (simp [*, errW_none, errW_some] <;> rfl), by repeat (first | (with_reducible first | exact HB.out | apply below_alloc | apply pw_below_drewN | apply below_drew1 | refine below_set ?_ GE109.out) | exact HB.out)⟩
              · replace c12 := Bool.eq_false_iff.mpr c12
                subst c12
                have H1 : (some (some 1)) = some r := by rw [if_neg (show ¬ (false = true) by decide)] at H; exact H
                clear H
                have H := H1
                clear H1
                obtain rfl := Option.some.inj H
                have hcz14_0 : w4.cell? ⟨gb109, 0, none⟩ = some (.int .i64 a0_0) := (blk_cell BK109.out 0).trans rfl
                have hcz14_1 : w4.cell? ⟨gb109, 1, none⟩ = some (.int .i64 a0_1) := (blk_cell BK109.out 1).trans rfl
                have hcz14_2 : w4.cell? ⟨gb109, 2, none⟩ = some (.int .i64 a0_2) := (blk_cell BK109.out 2).trans rfl
                have hcz14_3 : w4.cell? ⟨gb109, 3, none⟩ = some (.slice A0_3 l0_3.length c0_3) := (blk_cell BK109.out 3).trans rfl
                have hcz14_4 : w4.cell? ⟨gb109, 4, none⟩ = some (.string a0_4) := (blk_cell BK109.out 4).trans rfl
                have hcz14_5 : w4.cell? ⟨gb109, 5, none⟩ = some (.int .i64 a0_5) := (blk_cell BK109.out 5).trans rfl
                have hfz14_0 := blk_frozen BK109.out 0
                have hfz14_1 := blk_frozen BK109.out 1
                have hfz14_2 := blk_frozen BK109.out 2
                have hfz14_3 := blk_frozen BK109.out 3
                have hfz14_4 := blk_frozen BK109.out 4
                have hfz14_5 := blk_frozen BK109.out 5
                go_wp2_with (first | (go_at_call 59; (with_reducible refine (entry_within.calls a0_2 0 2000 false _ A11.out).mono ?_); rintro e w' ⟨rfl, ⟨nd, rfl⟩⟩))
                go_ret
                exact ⟨by first | rfl | (simp [errW_none, errW_some] <;> rfl) | (simp [*, errW_none, errW_some] <;> rfl), by repeat (first | (with_reducible first | exact HB.out | apply below_alloc | apply pw_below_drewN | apply below_drew1 | refine below_set ?_ GE109.out) | exact HB.out)⟩
            · rw [if_neg c10] at H
              have c10b0 : decide (a0_2 ≤ (wrap64 (2000 - (l0_3.length : Int)))) = false := decide_eq_false c10
              clear c10
              obtain rfl := Option.some.inj H
              have hcz15_0 : w4.cell? ⟨gb109, 0, none⟩ = some (.int .i64 a0_0) := (blk_cell BK109.out 0).trans rfl
              have hcz15_1 : w4.cell? ⟨gb109, 1, none⟩ = some (.int .i64 a0_1) := (blk_cell BK109.out 1).trans rfl
              have hcz15_2 : w4.cell? ⟨gb109, 2, none⟩ = some (.int .i64 a0_2) := (blk_cell BK109.out 2).trans rfl
              have hcz15_3 : w4.cell? ⟨gb109, 3, none⟩ = some (.slice A0_3 l0_3.length c0_3) := (blk_cell BK109.out 3).trans rfl
              have hcz15_4 : w4.cell? ⟨gb109, 4, none⟩ = some (.string a0_4) := (blk_cell BK109.out 4).trans rfl
              have hcz15_5 : w4.cell? ⟨gb109, 5, none⟩ = some (.int .i64 a0_5) := (blk_cell BK109.out 5).trans rfl
              have hfz15_0 := blk_frozen BK109.out 0
              have hfz15_1 := blk_frozen BK109.out 1
              have hfz15_2 := blk_frozen BK109.out 2
              have hfz15_3 := blk_frozen BK109.out 3
              have hfz15_4 := blk_frozen BK109.out 4
              have hfz15_5 := blk_frozen BK109.out 5
              go_wp2
              go_ret
              exact ⟨by first | rfl | (simp [errW_none, errW_some] <;> rfl) | (simp [*, errW_none, errW_some] <;> rfl), by repeat (first | (with_reducible first | exact HB.out | apply below_alloc | apply pw_below_drewN | apply below_drew1 | refine below_set ?_ GE109.out) | exact HB.out)⟩
          · rw [if_neg c9] at H
            have c9b0 : decide ((l0_3.length : Int) ≤ 2000) = false := decide_eq_false c9
            have c9b1 : decide (l0_3.length ≤ 2000) = false := decide_eq_false (by omega)
            clear c9
            obtain rfl := Option.some.inj H
            have hcz16_0 : w4.cell? ⟨gb109, 0, none⟩ = some (.int .i64 a0_0) := (blk_cell BK109.out 0).trans rfl
            have hcz16_1 : w4.cell? ⟨gb109, 1, none⟩ = some (.int .i64 a0_1) := (blk_cell BK109.out 1).trans rfl
            have hcz16_2 : w4.cell? ⟨gb109, 2, none⟩ = some (.int .i64 a0_2) := (blk_cell BK109.out 2).trans rfl
            have hcz16_3 : w4.cell? ⟨gb109, 3, none⟩ = some (.slice A0_3 l0_3.length c0_3) := (blk_cell BK109.out 3).trans rfl
            have hcz16_4 : w4.cell? ⟨gb109, 4, none⟩ = some (.string a0_4) := (blk_cell BK109.out 4).trans rfl
            have hcz16_5 : w4.cell? ⟨gb109, 5, none⟩ = some (.int .i64 a0_5) := (blk_cell BK109.out 5).trans rfl
            have hfz16_0 := blk_frozen BK109.out 0
            have hfz16_1 := blk_frozen BK109.out 1
            have hfz16_2 := blk_frozen BK109.out 2
            have hfz16_3 := blk_frozen BK109.out 3
            have hfz16_4 := blk_frozen BK109.out 4
            have hfz16_5 := blk_frozen BK109.out 5
            go_wp2
            go_ret
            exact ⟨by first | rfl | (simp [errW_none, errW_some] <;> rfl) | (simp [*, errW_none, errW_some] <;> rfl), by repeat (first | (with_reducible first | exact HB.out | apply below_alloc | apply pw_below_drewN | apply below_drew1 | refine below_set ?_ GE109.out) | exact HB.out)⟩
        · rw [if_neg c8] at H
          have c8b0 : decide (0 < (l0_3.length : Int)) = false := decide_eq_false c8
          have c8b1 : decide (0 < l0_3.length) = false := decide_eq_false (by omega)
          clear c8
          obtain rfl := Option.some.inj H
          have hcz17_0 : w4.cell? ⟨gb109, 0, none⟩ = some (.int .i64 a0_0) := (blk_cell BK109.out 0).trans rfl
          have hcz17_1 : w4.cell? ⟨gb109, 1, none⟩ = some (.int .i64 a0_1) := (blk_cell BK109.out 1).trans rfl
          have hcz17_2 : w4.cell? ⟨gb109, 2, none⟩ = some (.int .i64 a0_2) := (blk_cell BK109.out 2).trans rfl
          have hcz17_3 : w4.cell? ⟨gb109, 3, none⟩ = some (.slice A0_3 l0_3.length c0_3) := (blk_cell BK109.out 3).trans rfl
          have hcz17_4 : w4.cell? ⟨gb109, 4, none⟩ = some (.string a0_4) := (blk_cell BK109.out 4).trans rfl
          have hcz17_5 : w4.cell? ⟨gb109, 5, none⟩ = some (.int .i64 a0_5) := (blk_cell BK109.out 5).trans rfl
          have hfz17_0 := blk_frozen BK109.out 0
          have hfz17_1 := blk_frozen BK109.out 1
          have hfz17_2 := blk_frozen BK109.out 2
          have hfz17_3 := blk_frozen BK109.out 3
          have hfz17_4 := blk_frozen BK109.out 4
          have hfz17_5 := blk_frozen BK109.out 5
          go_wp2
          go_ret
          exact ⟨by first | rfl | (simp [errW_none, errW_some] <;> rfl) | (simp [*, errW_none, errW_some] <;> rfl), by repeat (first | (with_reducible first | exact HB.out | apply below_alloc | apply pw_below_drewN | apply below_drew1 | refine below_set ?_ GE109.out) | exact HB.out)⟩
      · replace c7 := Bool.eq_false_iff.mpr c7
        subst c7
        have H1 : (some (some 1)) = some r := by rw [if_neg (show ¬ (false = true) by decide)] at H; exact H
        clear H
        have H := H1
        clear H1
        obtain rfl := Option.some.inj H
        go_wp2
        go_ret
        exact ⟨by first | rfl | (simp [errW_none, errW_some] <;> rfl) | (simp [*, errW_none, errW_some] <;> rfl), by repeat (first | (with_reducible first | exact HB.out | apply below_alloc | apply pw_below_drewN | apply below_drew1 | refine below_set ?_ GE109.out) | exact HB.out)⟩
    · rw [if_neg c6] at H
      have c6b0 : (a0_0 == 1) = false := beq_eq_false_iff_ne.mpr c6
      have c6b1 : (a0_0 != 1) = true := bne_iff_ne.mpr c6
      (first | rw [c6b0] | (simp only [i64_w, i32_w]; rw [c6b0]) | skip)
      by_cases c18 : a0_0 = 2
      · rw [if_pos c18] at H
        have c18b0 : (a0_0 == 2) = true := beq_iff_eq.mpr c18
        have c18b1 : (a0_0 != 2) = false := bne_eq_false_iff_eq.mpr c18
        clear c18
        by_cases c19 : t110 = true
        · subst c19
          have H1 : ((entry_within.f a0_2 0 2000).bind fun t112 => (if t112 = true then (some none) else (some (some 1)))) = some r := by rw [if_pos rfl] at H; exact H
          clear H
          have H := H1
          clear H1
          replace H := Option.bind_eq_some_iff.mp H
          obtain ⟨t112, A200, H⟩ := H
          replace H : (if t112 = true then (some none) else (some (some 1))) = some r := H
          have A20 := Aside0.mk A200
          clear A200
          by_cases c21 : t112 = true
          · subst c21
            have H1 : (some none) = some r := by rw [if_pos rfl] at H; exact H
            clear H
            have H := H1
            clear H1
            obtain rfl := Option.some.inj H
            have hcz22_0 : w4.cell? ⟨gb109, 0, none⟩ = some (.int .i64 a0_0) := (blk_cell BK109.out 0).trans rfl
            have hcz22_1 : w4.cell? ⟨gb109, 1, none⟩ = some (.int .i64 a0_1) := (blk_cell BK109.out 1).trans rfl
            have hcz22_2 : w4.cell? ⟨gb109, 2, none⟩ = some (.int .i64 a0_2) := (blk_cell BK109.out 2).trans rfl
            have hcz22_3 : w4.cell? ⟨gb109, 3, none⟩ = some (.slice A0_3 l0_3.length c0_3) := (blk_cell BK109.out 3).trans rfl
            have hcz22_4 : w4.cell? ⟨gb109, 4, none⟩ = some (.string a0_4) := (blk_cell BK109.out 4).trans rfl
            have hcz22_5 : w4.cell? ⟨gb109, 5, none⟩ = some (.int .i64 a0_5) := (blk_cell BK109.out 5).trans rfl
            have hfz22_0 := blk_frozen BK109.out 0
            have hfz22_1 := blk_frozen BK109.out 1
            have hfz22_2 := blk_frozen BK109.out 2
            have hfz22_3 := blk_frozen BK109.out 3
            have hfz22_4 := blk_frozen BK109.out 4
            have hfz22_5 := blk_frozen BK109.out 5
            go_wp2_with (first | (go_at_call 59; (with_reducible refine (entry_within.calls a0_2 0 2000 true _ A20.out).mono ?_); rintro e w' ⟨rfl, ⟨nd, rfl⟩⟩))
            go_ret
            exact ⟨by first | rfl | (simp [errW_none, errW_some] <;> rfl) | (simp [*, errW_none, errW_some] <;> rfl), by repeat (first | (with_reducible first | exact HB.out | apply below_alloc | apply pw_below_drewN | apply below_drew1 | refine below_set ?_ GE109.out) | exact HB.out)⟩
          · replace c21 := Bool.eq_false_iff.mpr c21
            subst c21
            have H1 : (some (some 1)) = some r := by rw [if_neg (show ¬ (false = true) by decide)] at H; exact H
            clear H
            have H := H1
            clear H1
            obtain rfl := Option.some.inj H
            have hcz23_0 : w4.cell? ⟨gb109, 0, none⟩ = some (.int .i64 a0_0) := (blk_cell BK109.out 0).trans rfl
            have hcz23_1 : w4.cell? ⟨gb109, 1, none⟩ = some (.int .i64 a0_1) := (blk_cell BK109.out 1).trans rfl
            have hcz23_2 : w4.cell? ⟨gb109, 2, none⟩ = some (.int .i64 a0_2) := (blk_cell BK109.out 2).trans rfl
            have hcz23_3 : w4.cell? ⟨gb109, 3, none⟩ = some (.slice A0_3 l0_3.length c0_3) := (blk_cell BK109.out 3).trans rfl
            have hcz23_4 : w4.cell? ⟨gb109, 4, none⟩ = some (.string a0_4) := (blk_cell BK109.out 4).trans rfl
            have hcz23_5 : w4.cell? ⟨gb109, 5, none⟩ = some (.int .i64 a0_5) := (blk_cell BK109.out 5).trans rfl
            have hfz23_0 := blk_frozen BK109.out 0
            have hfz23_1 := blk_frozen BK109.out 1
            have hfz23_2 := blk_frozen BK109.out 2
            have hfz23_3 := blk_frozen BK109.out 3
            have hfz23_4 := blk_frozen BK109.out 4
            have hfz23_5 := blk_frozen BK109.out 5
            go_wp2_with (first | (go_at_call 59; (with_reducible refine (entry_within.calls a0_2 0 2000 false _ A20.out).mono ?_); rintro e w' ⟨rfl, ⟨nd, rfl⟩⟩))
            go_ret
            exact ⟨by first | rfl | (simp [errW_none, errW_some] <;> rfl) | (simp [*, errW_none, errW_some] <;> rfl), by repeat (first | (with_reducible first | exact HB.out | apply below_alloc | apply pw_below_drewN | apply below_drew1 | refine below_set ?_ GE109.out) | exact HB.out)⟩
        · replace c19 := Bool.eq_false_iff.mpr c19
          subst c19
          have H1 : (some (some 1)) = some r := by rw [if_neg (show ¬ (false = true) by decide)] at H; exact H
          clear H
          have H := H1
          clear H1
          obtain rfl := Option.some.inj H
          go_wp2
          go_ret
          exact ⟨by first | rfl | (simp [errW_none, errW_some] <;> rfl) | (simp [*, errW_none, errW_some] <;> rfl), by repeat (first | (with_reducible first | exact HB.out | apply below_alloc | apply pw_below_drewN | apply below_drew1 | refine below_set ?_ GE109.out) | exact HB.out)⟩
      · rw [if_neg c18] at H
        have c18b0 : (a0_0 == 2) = false := beq_eq_false_iff_ne.mpr c18
        have c18b1 : (a0_0 != 2) = true := bne_iff_ne.mpr c18
        by_cases c24 : a0_0 = 3
        · rw [if_pos c24] at H
          have c24b0 : (a0_0 == 3) = true := beq_iff_eq.mpr c24
          have c24b1 : (a0_0 != 3) = false := bne_eq_false_iff_eq.mpr c24
          clear c24
          by_cases c25 : t110 = true
          · subst c25
            have H1 : ((entry_within.f a0_5 1 1073741824).bind fun t113 => (entry_Check.j0 k t113 a0_0 a0_1 a0_2 l0_3 a0_4 a0_5)) = some r := by rw [if_pos rfl] at H; exact H
            clear H
            have H := H1
            clear H1
            replace H := Option.bind_eq_some_iff.mp H
            obtain ⟨t113, A260, H⟩ := H
            replace H : (entry_Check.j0 k t113 a0_0 a0_1 a0_2 l0_3 a0_4 a0_5) = some r := H
            have A26 := Aside0.mk A260
            clear A260
            have H' := Aside0.mk H
            clear H
            have hcz27_0 : w4.cell? ⟨gb109, 0, none⟩ = some (.int .i64 a0_0) := (blk_cell BK109.out 0).trans rfl
            have hcz27_1 : w4.cell? ⟨gb109, 1, none⟩ = some (.int .i64 a0_1) := (blk_cell BK109.out 1).trans rfl
            have hcz27_2 : w4.cell? ⟨gb109, 2, none⟩ = some (.int .i64 a0_2) := (blk_cell BK109.out 2).trans rfl
            have hcz27_3 : w4.cell? ⟨gb109, 3, none⟩ = some (.slice A0_3 l0_3.length c0_3) := (blk_cell BK109.out 3).trans rfl
            have hcz27_4 : w4.cell? ⟨gb109, 4, none⟩ = some (.string a0_4) := (blk_cell BK109.out 4).trans rfl
            have hcz27_5 : w4.cell? ⟨gb109, 5, none⟩ = some (.int .i64 a0_5) := (blk_cell BK109.out 5).trans rfl
            have hfz27_0 := blk_frozen BK109.out 0
            have hfz27_1 := blk_frozen BK109.out 1
            have hfz27_2 := blk_frozen BK109.out 2
            have hfz27_3 := blk_frozen BK109.out 3
            have hfz27_4 := blk_frozen BK109.out 4
            have hfz27_5 := blk_frozen BK109.out 5
            go_wp2_with (first | (go_at_call 59; (with_reducible refine (entry_within.calls a0_5 1 1073741824 t113 _ A26.out).mono ?_); rintro e w' ⟨rfl, ⟨nd, rfl⟩⟩))
            go_meet
            case rel => exact ⟨_, (t113), (by first | rfl | (simp; done) | (simp [*]; done)), H', ⟨by first | omega | exact Nat.le_refl _⟩, ⟨by (with_reducible repeat (first | refine blk_drewN ?_ _ | refine blk_drew ?_ | refine blk_alloc ?_ _)); exact BK109.out⟩, ⟨by repeat (first | (with_reducible first | exact HB.out | apply below_alloc | apply pw_below_drewN | apply below_drew1 | refine below_set ?_ GE109.out) | exact HB.out)⟩⟩
          · replace c25 := Bool.eq_false_iff.mpr c25
            subst c25
            have H1 : (entry_Check.j0 k false a0_0 a0_1 a0_2 l0_3 a0_4 a0_5) = some r := by rw [if_neg (show ¬ (false = true) by decide)] at H; exact H
            clear H
            have H := H1
            clear H1
            have H' := Aside0.mk H
            clear H
            go_wp2
            go_meet
            case rel => exact ⟨_, (false), (by first | rfl | (simp; done) | (simp [*]; done)), H', ⟨by first | omega | exact Nat.le_refl _⟩, ⟨by (with_reducible repeat (first | refine blk_drewN ?_ _ | refine blk_drew ?_ | refine blk_alloc ?_ _)); exact BK109.out⟩, ⟨by repeat (first | (with_reducible first | exact HB.out | apply below_alloc | apply pw_below_drewN | apply below_drew1 | refine below_set ?_ GE109.out) | exact HB.out)⟩⟩
        · rw [if_neg c24] at H
          have c24b0 : (a0_0 == 3) = false := beq_eq_false_iff_ne.mpr c24
          have c24b1 : (a0_0 != 3) = true := bne_iff_ne.mpr c24
          by_cases c28 : a0_0 = 4
          · rw [if_pos c28] at H
            have c28b0 : (a0_0 == 4) = true := beq_iff_eq.mpr c28
            have c28b1 : (a0_0 != 4) = false := bne_eq_false_iff_eq.mpr c28
            clear c28
            have H' := Aside0.mk H
            clear H
            go_wp2
            go_meet
            case rel => exact ⟨_, (t110), (by first | rfl | (simp; done) | (simp [*]; done)), H', ⟨by first | omega | exact Nat.le_refl _⟩, ⟨by (with_reducible repeat (first | refine blk_drewN ?_ _ | refine blk_drew ?_ | refine blk_alloc ?_ _)); exact BK109.out⟩, ⟨by repeat (first | (with_reducible first | exact HB.out | apply below_alloc | apply pw_below_drewN | apply below_drew1 | refine below_set ?_ GE109.out) | exact HB.out)⟩⟩
          · rw [if_neg c28] at H
            have c28b0 : (a0_0 == 4) = false := beq_eq_false_iff_ne.mpr c28
            have c28b1 : (a0_0 != 4) = true := bne_iff_ne.mpr c28
            by_cases c29 : a0_0 = 5
            · rw [if_pos c29] at H
              have c29b0 : (a0_0 == 5) = true := beq_iff_eq.mpr c29
              have c29b1 : (a0_0 != 5) = false := bne_eq_false_iff_eq.mpr c29
              clear c29
              by_cases c30 : t110 = true
              · subst c30
                have H1 : ((entry_within.f a0_5 1 1073741824).bind fun t114 => (if t114 = true then (some none) else (some (some 1)))) = some r := by rw [if_pos rfl] at H; exact H
                clear H
                have H := H1
                clear H1
                replace H := Option.bind_eq_some_iff.mp H
                obtain ⟨t114, A310, H⟩ := H
                replace H : (if t114 = true then (some none) else (some (some 1))) = some r := H
                have A31 := Aside0.mk A310
                clear A310
                by_cases c32 : t114 = true
                · subst c32
                  have H1 : (some none) = some r := by rw [if_pos rfl] at H; exact H
                  clear H
                  have H := H1
                  clear H1
                  obtain rfl := Option.some.inj H
                  have hcz33_0 : w4.cell? ⟨gb109, 0, none⟩ = some (.int .i64 a0_0) := (blk_cell BK109.out 0).trans rfl
                  have hcz33_1 : w4.cell? ⟨gb109, 1, none⟩ = some (.int .i64 a0_1) := (blk_cell BK109.out 1).trans rfl
                  have hcz33_2 : w4.cell? ⟨gb109, 2, none⟩ = some (.int .i64 a0_2) := (blk_cell BK109.out 2).trans rfl
                  have hcz33_3 : w4.cell? ⟨gb109, 3, none⟩ = some (.slice A0_3 l0_3.length c0_3) := (blk_cell BK109.out 3).trans rfl
                  have hcz33_4 : w4.cell? ⟨gb109, 4, none⟩ = some (.string a0_4) := (blk_cell BK109.out 4).trans rfl
                  have hcz33_5 : w4.cell? ⟨gb109, 5, none⟩ = some (.int .i64 a0_5) := (blk_cell BK109.out 5).trans rfl
                  have hfz33_0 := blk_frozen BK109.out 0
                  have hfz33_1 := blk_frozen BK109.out 1
                  have hfz33_2 := blk_frozen BK109.out 2
                  have hfz33_3 := blk_frozen BK109.out 3
                  have hfz33_4 := blk_frozen BK109.out 4
                  have hfz33_5 := blk_frozen BK109.out 5
                  go_wp2_with (first | (go_at_call 59; (with_reducible refine (entry_within.calls a0_5 1 1073741824 true _ A31.out).mono ?_); rintro e w' ⟨rfl, ⟨nd, rfl⟩⟩))
                  go_ret
                  exact ⟨by first | rfl | (simp [errW_none, errW_some] <;> rfl) | (simp [*, errW_none, errW_some] <;> rfl), by repeat (first | (with_reducible first | exact HB.out | apply below_alloc | apply pw_below_drewN | apply below_drew1 | refine below_set ?_ GE109.out) | exact HB.out)⟩
                · replace c32 := Bool.eq_false_iff.mpr c32
                  subst c32
                  have H1 : (some (some 1)) = some r := by rw [if_neg (show ¬ (false = true) by decide)] at H; exact H
                  clear H
                  have H := H1
                  clear H1
                  obtain rfl := Option.some.inj H
                  have hcz34_0 : w4.cell? ⟨gb109, 0, none⟩ = some (.int .i64 a0_0) := (blk_cell BK109.out 0).trans rfl
                  have hcz34_1 : w4.cell? ⟨gb109, 1, none⟩ = some (.int .i64 a0_1) := (blk_cell BK109.out 1).trans rfl
                  have hcz34_2 : w4.cell? ⟨gb109, 2, none⟩ = some (.int .i64 a0_2) := (blk_cell BK109.out 2).trans rfl
                  have hcz34_3 : w4.cell? ⟨gb109, 3, none⟩ = some (.slice A0_3 l0_3.length c0_3) := (blk_cell BK109.out 3).trans rfl
                  have hcz34_4 : w4.cell? ⟨gb109, 4, none⟩ = some (.string a0_4) := (blk_cell BK109.out 4).trans rfl
                  have hcz34_5 : w4.cell? ⟨gb109, 5, none⟩ = some (.int .i64 a0_5) := (blk_cell BK109.out 5).trans rfl
                  have hfz34_0 := blk_frozen BK109.out 0
                  have hfz34_1 := blk_frozen BK109.out 1
                  have hfz34_2 := blk_frozen BK109.out 2
                  have hfz34_3 := blk_frozen BK109.out 3
                  have hfz34_4 := blk_frozen BK109.out 4
                  have hfz34_5 := blk_frozen BK109.out 5
                  go_wp2_with (first | (go_at_call 59; (with_reducible refine (entry_within.calls a0_5 1 1073741824 false _ A31.out).mono ?_); rintro e w' ⟨rfl, ⟨nd, rfl⟩⟩))
                  go_ret
                  exact ⟨by first | rfl | (simp [errW_none, errW_some] <;> rfl) | (simp [*, errW_none, errW_some] <;> rfl), by repeat (first | (with_reducible first | exact HB.out | apply below_alloc | apply pw_below_drewN | apply below_drew1 | refine below_set ?_ GE109.out) | exact HB.out)⟩
              · replace c30 := Bool.eq_false_iff.mpr c30
                subst c30
                have H1 : (some (some 1)) = some r := by rw [if_neg (show ¬ (false = true) by decide)] at H; exact H
                clear H
                have H := H1
                clear H1
                obtain rfl := Option.some.inj H
                go_wp2
                go_ret
                exact ⟨by first | rfl | (simp [errW_none, errW_some] <;> rfl) | (simp [*, errW_none, errW_some] <;> rfl), by repeat (first | (with_reducible first | exact HB.out | apply below_alloc | apply pw_below_drewN | apply below_drew1 | refine below_set ?_ GE109.out) | exact HB.out)⟩
            · rw [if_neg c29] at H
              have c29b0 : (a0_0 == 5) = false := beq_eq_false_iff_ne.mpr c29
              have c29b1 : (a0_0 != 5) = true := bne_iff_ne.mpr c29
              obtain rfl := Option.some.inj H
              go_wp2
              go_ret
              exact ⟨by first | rfl | (simp [errW_none, errW_some] <;> rfl) | (simp [*, errW_none, errW_some] <;> rfl), by repeat (first | (with_reducible first | exact HB.out | apply below_alloc | apply pw_below_drewN | apply below_drew1 | refine below_set ?_ GE109.out) | exact HB.out)⟩
  case rest =>
    clear HC3
    (try clear c1); (try clear c2); (try clear p2); (try clear c3); (try clear c4); (try clear c5); (try clear c6); (try clear c6b0); (try clear c6b1); (try clear p6); (try clear c7); (try clear c8); (try clear c8b0); (try clear c8b1); (try clear c9); (try clear c9b0); (try clear c9b1); (try clear c10); (try clear c10b0); (try clear c12); (try clear c18); (try clear c18b0); (try clear c18b1); (try clear c19); (try clear c21); (try clear c24); (try clear c24b0); (try clear c24b1); (try clear c25); (try clear c28); (try clear c28b0); (try clear c28b1); (try clear c29); (try clear c29b0); (try clear c29b1); (try clear c30); (try clear c32); (try clear hcz13_0); (try clear hcz13_1); (try clear hcz13_2); (try clear hcz13_3); (try clear hcz13_4); (try clear hcz13_5); (try clear hcz14_0); (try clear hcz14_1); (try clear hcz14_2); (try clear hcz14_3); (try clear hcz14_4); (try clear hcz14_5); (try clear hcz15_0); (try clear hcz15_1); (try clear hcz15_2); (try clear hcz15_3); (try clear hcz15_4); (try clear hcz15_5); (try clear hcz16_0); (try clear hcz16_1); (try clear hcz16_2); (try clear hcz16_3); (try clear hcz16_4); (try clear hcz16_5); (try clear hcz17_0); (try clear hcz17_1); (try clear hcz17_2); (try clear hcz17_3); (try clear hcz17_4); (try clear hcz17_5); (try clear hcz22_0); (try clear hcz22_1); (try clear hcz22_2); (try clear hcz22_3); (try clear hcz22_4); (try clear hcz22_5); (try clear hcz23_0); (try clear hcz23_1); (try clear hcz23_2); (try clear hcz23_3); (try clear hcz23_4); (try clear hcz23_5); (try clear hcz27_0); (try clear hcz27_1); (try clear hcz27_2); (try clear hcz27_3); (try clear hcz27_4); (try clear hcz27_5); (try clear hcz33_0); (try clear hcz33_1); (try clear hcz33_2); (try clear hcz33_3); (try clear hcz33_4); (try clear hcz33_5); (try clear hcz34_0); (try clear hcz34_1); (try clear hcz34_2); (try clear hcz34_3); (try clear hcz34_4); (try clear hcz34_5); (try clear hcz5_0); (try clear hcz5_1); (try clear hcz5_2); (try clear hcz5_3); (try clear hcz5_4); (try clear hcz5_5); (try clear hfz13_0); (try clear hfz13_1); (try clear hfz13_2); (try clear hfz13_3); (try clear hfz13_4); (try clear hfz13_5); (try clear hfz14_0); (try clear hfz14_1); (try clear hfz14_2); (try clear hfz14_3); (try clear hfz14_4); (try clear hfz14_5); (try clear hfz15_0); (try clear hfz15_1); (try clear hfz15_2); (try clear hfz15_3); (try clear hfz15_4); (try clear hfz15_5); (try clear hfz16_0); (try clear hfz16_1); (try clear hfz16_2); (try clear hfz16_3); (try clear hfz16_4); (try clear hfz16_5); (try clear hfz17_0); (try clear hfz17_1); (try clear hfz17_2); (try clear hfz17_3); (try clear hfz17_4); (try clear hfz17_5); (try clear hfz22_0); (try clear hfz22_1); (try clear hfz22_2); (try clear hfz22_3); (try clear hfz22_4); (try clear hfz22_5); (try clear hfz23_0); (try clear hfz23_1); (try clear hfz23_2); (try clear hfz23_3); (try clear hfz23_4); (try clear hfz23_5); (try clear hfz27_0); (try clear hfz27_1); (try clear hfz27_2); (try clear hfz27_3); (try clear hfz27_4); (try clear hfz27_5); (try clear hfz33_0); (try clear hfz33_1); (try clear hfz33_2); (try clear hfz33_3); (try clear hfz33_4); (try clear hfz33_5); (try clear hfz34_0); (try clear hfz34_1); (try clear hfz34_2); (try clear hfz34_3); (try clear hfz34_4); (try clear hfz34_5); (try clear hfz5_0); (try clear hfz5_1); (try clear hfz5_2); (try clear hfz5_3); (try clear hfz5_4); (try clear hfz5_5)
    obtain ⟨kq, x3_2, rfl, HA, HJ2, BK109, HB⟩ := hcut
    cases kq with
    | zero => exact absurd HA.out (by simp [entry_Check.j0])
    | succ kj2 =>
      have H := HA.out
      clear HA
      simp only [entry_Check.j0] at H
      by_cases c35 : x3_2 = true
      · subst c35
        have H1 : ((entry_within.f (a0_4.size : Int) 1 12).bind fun t115 => (if t115 = true then (some none) else (some (some 1)))) = some r := by rw [if_pos rfl] at H; exact H
        clear H
        have H := H1
        clear H1
        replace H := Option.bind_eq_some_iff.mp H
        obtain ⟨t115, A360, H⟩ := H
        replace H : (if t115 = true then (some none) else (some (some 1))) = some r := H
        have A36 := Aside0.mk A360
        clear A360
        by_cases c37 : t115 = true
        · subst c37
          have H1 : (some none) = some r := by rw [if_pos rfl] at H; exact H
          clear H
          have H := H1
          clear H1
          obtain rfl := Option.some.inj H
          have hcz38_0 : wc.cell? ⟨gb109, 0, none⟩ = some (.int .i64 a0_0) := (blk_cell BK109.out 0).trans rfl
          have hcz38_1 : wc.cell? ⟨gb109, 1, none⟩ = some (.int .i64 a0_1) := (blk_cell BK109.out 1).trans rfl
          have hcz38_2 : wc.cell? ⟨gb109, 2, none⟩ = some (.int .i64 a0_2) := (blk_cell BK109.out 2).trans rfl
          have hcz38_3 : wc.cell? ⟨gb109, 3, none⟩ = some (.slice A0_3 l0_3.length c0_3) := (blk_cell BK109.out 3).trans rfl
          have hcz38_4 : wc.cell? ⟨gb109, 4, none⟩ = some (.string a0_4) := (blk_cell BK109.out 4).trans rfl
          have hcz38_5 : wc.cell? ⟨gb109, 5, none⟩ = some (.int .i64 a0_5) := (blk_cell BK109.out 5).trans rfl
          have hfz38_0 := blk_frozen BK109.out 0
          have hfz38_1 := blk_frozen BK109.out 1
          have hfz38_2 := blk_frozen BK109.out 2
          have hfz38_3 := blk_frozen BK109.out 3
          have hfz38_4 := blk_frozen BK109.out 4
          have hfz38_5 := blk_frozen BK109.out 5
          go_wp2_with (first | (go_at_call 59; (with_reducible refine (entry_within.calls (a0_4.size : Int) 1 12 true _ A36.out).mono ?_); rintro e w' ⟨rfl, ⟨nd, rfl⟩⟩))
          go_ret
          exact ⟨by first | rfl | (simp [errW_none, errW_some] <;> rfl) | (simp [*, errW_none, errW_some] <;> rfl), by repeat (first | (with_reducible first | exact HB.out | apply below_alloc | apply pw_below_drewN | apply below_drew1 | refine below_set ?_ GE109.out) | exact HB.out)⟩
        · replace c37 := Bool.eq_false_iff.mpr c37
          subst c37
          have H1 : (some (some 1)) = some r := by rw [if_neg (show ¬ (false = true) by decide)] at H; exact H
          clear H
          have H := H1
          clear H1
          obtain rfl := Option.some.inj H
          have hcz39_0 : wc.cell? ⟨gb109, 0, none⟩ = some (.int .i64 a0_0) := (blk_cell BK109.out 0).trans rfl
          have hcz39_1 : wc.cell? ⟨gb109, 1, none⟩ = some (.int .i64 a0_1) := (blk_cell BK109.out 1).trans rfl
          have hcz39_2 : wc.cell? ⟨gb109, 2, none⟩ = some (.int .i64 a0_2) := (blk_cell BK109.out 2).trans rfl
          have hcz39_3 : wc.cell? ⟨gb109, 3, none⟩ = some (.slice A0_3 l0_3.length c0_3) := (blk_cell BK109.out 3).trans rfl
          have hcz39_4 : wc.cell? ⟨gb109, 4, none⟩ = some (.string a0_4) := (blk_cell BK109.out 4).trans rfl
          have hcz39_5 : wc.cell? ⟨gb109, 5, none⟩ = some (.int .i64 a0_5) := (blk_cell BK109.out 5).trans rfl
          have hfz39_0 := blk_frozen BK109.out 0
          have hfz39_1 := blk_frozen BK109.out 1
          have hfz39_2 := blk_frozen BK109.out 2
          have hfz39_3 := blk_frozen BK109.out 3
          have hfz39_4 := blk_frozen BK109.out 4
          have hfz39_5 := blk_frozen BK109.out 5
          go_wp2_with (first | (go_at_call 59; (with_reducible refine (entry_within.calls (a0_4.size : Int) 1 12 false _ A36.out).mono ?_); rintro e w' ⟨rfl, ⟨nd, rfl⟩⟩))
          go_ret
          exact ⟨by first | rfl | (simp [errW_none, errW_some] <;> rfl) | (simp [*, errW_none, errW_some] <;> rfl), by repeat (first | (with_reducible first | exact HB.out | apply below_alloc | apply pw_below_drewN | apply below_drew1 | refine below_set ?_ GE109.out) | exact HB.out)⟩
      · replace c35 := Bool.eq_false_iff.mpr c35
        subst c35
        have H1 : (some (some 1)) = some r := by rw [if_neg (show ¬ (false = true) by decide)] at H; exact H
        clear H
        have H := H1
        clear H1
        obtain rfl := Option.some.inj H
        go_wp2
        go_ret
        exact ⟨by first | rfl | (simp [errW_none, errW_some] <;> rfl) | (simp [*, errW_none, errW_some] <;> rfl), by repeat (first | (with_reducible first | exact HB.out | apply below_alloc | apply pw_below_drewN | apply below_drew1 | refine below_set ?_ GE109.out) | exact HB.out)⟩

end Go.Proofs.Ytacdocchcfbgcaa.Q
