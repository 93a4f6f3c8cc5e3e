-- printed by wip/mp.py (the kit's print, with given functions); Lean checks it
import Derived.Test.YtacdocchcfbgcaaEx0
import Derived.Test.YtacdocchcfbgcaaEx7
namespace Go.Proofs.Ytacdocchcfbgcaa.Q
open Go.RowKit Go.Proofs.YtacdocchcfbgcaaW.PrintWords Go.Proofs.YtacdocchcfbgcaaW.PrintLast Go.Proofs.YtacdocchcfbgcaaW.PrintMore
attribute [local go_sem] max2_int min2_int max_two min_two max_three min_three max_four min_four   -- for this text's walks alone
set_option linter.unusedVariables false
set_option linter.unusedSimpArgs false

/-! ### dolmenref9_CheckEntry: function 17 -/
def dolmenref9_CheckEntry.j0 : Nat → Bool → Int → Bool → Int → Int → Int → List Int → ByteArray → Int → Option (Int)
  | 0, _, _, _, _, _, _, _, _, _ => none
  | k + 1, x3, x8, x50, x146000, x146001, x146002, x146003, x146004, x146005 => if x50 = true then (if x3 = true then (if (x146004.size : Int) > 0 then (if (x146004.size : Int) ≤ 12 then (if x146000 = 4 then (some 0) else (if x146005 ≥ 1 then (if x146005 ≤ 1073741824 then (some 0) else (some 1)) else (some 1))) else (some 1)) else (some 1)) else (some 1)) else (if x8 = 5 then (if x3 = true then (if x146005 ≥ 1 then (if x146005 ≤ 1073741824 then (some 0) else (some 1)) else (some 1)) else (some 1)) else (some 1))
def dolmenref9_CheckEntry.f (k : Nat) (a0_0 : Int) (a0_1 : Int) (a0_2 : Int) (l0_3 : List Int) (a0_4 : ByteArray) (a0_5 : Int) : Option (Int) := (dolmenref9_Epoch.f a0_1).bind fun t146 => (if a0_0 = 1 then (if t146 = true then (if a0_2 ≥ 0 then (if a0_2 ≤ 2000 then (if (l0_3.length : Int) > 0 then (if ((l0_3.length : Int) ≤ (wrap64 (2000 - a0_2))) then (some 0) else (some 1)) else (some 1)) else (some 1)) else (some 1)) else (some 1)) else (if a0_0 = 2 then (if t146 = true then (if a0_2 ≥ 0 then (if a0_2 ≤ 2000 then (some 0) else (some 1)) else (some 1)) else (some 1)) else (if a0_0 = 3 then (dolmenref9_CheckEntry.j0 k t146 a0_0 (a0_0 == 3) a0_0 a0_1 a0_2 l0_3 a0_4 a0_5) else (dolmenref9_CheckEntry.j0 k t146 a0_0 (a0_0 == 4) a0_0 a0_1 a0_2 l0_3 a0_4 a0_5))))
theorem dolmenref9_CheckEntry.mono_l : ∀ k, (∀ y0 y1 y2 y3 y4 y5 y6 y7 y8, LeO (dolmenref9_CheckEntry.j0 k y0 y1 y2 y3 y4 y5 y6 y7 y8) (dolmenref9_CheckEntry.j0 (k + 1) y0 y1 y2 y3 y4 y5 y6 y7 y8))
  | 0 => fun _ _ _ _ _ _ _ _ _ r h => by simp [dolmenref9_CheckEntry.j0] at h
  | k + 1 => by
    have ih0 := dolmenref9_CheckEntry.mono_l k
    · intro y0 y1 y2 y3 y4 y5 y6 y7 y8
      unfold dolmenref9_CheckEntry.j0
      repeat' first
      | (with_reducible exact ih0 _ _ _ _ _ _ _ _ _)
      | (with_reducible exact LeO.refl _)
      | (with_reducible exact LeO.none _)
      | (with_reducible refine LeO.ite ?_ ?_)
      | (with_reducible refine LeO.bind ?_ (fun _ => ?_))
      | exact ih0 _ _ _ _ _ _ _ _ _
      | exact LeO.none _
      | refine LeO.ite ?_ ?_
      | refine LeO.bind ?_ (fun _ => ?_)
theorem dolmenref9_CheckEntry.mono : ∀ a0 a1 a2 a3 a4 a5 k, LeO (dolmenref9_CheckEntry.f k a0 a1 a2 a3 a4 a5) (dolmenref9_CheckEntry.f (k + 1) a0 a1 a2 a3 a4 a5) := by
  intro a0 a1 a2 a3 a4 a5 k
  have ih0 := dolmenref9_CheckEntry.mono_l k
  unfold dolmenref9_CheckEntry.f
  repeat' first
      | (with_reducible exact ih0 _ _ _ _ _ _ _ _ _)
      | (with_reducible exact LeO.refl _)
      | (with_reducible exact LeO.none _)
      | (with_reducible refine LeO.ite ?_ ?_)
      | (with_reducible refine LeO.bind ?_ (fun _ => ?_))
      | exact ih0 _ _ _ _ _ _ _ _ _
      | exact LeO.none _
      | refine LeO.ite ?_ ?_
      | refine LeO.bind ?_ (fun _ => ?_)
set_option maxHeartbeats 8000000 in
set_option maxRecDepth 100000 in
theorem dolmenref9_CheckEntry.calls (k : Nat) (a0_0 : Int) (a0_1 : Int) (a0_2 : Int) (A0_3 : Option Addr) (c0_3 : Nat) (l0_3 : List Int) (a0_4 : ByteArray) (a0_5 : Int) (r : Int) (w : World) (hr0_3 : Kd.C (Kd.int .u8) w A0_3 l0_3.length l0_3) (hc0_3 : l0_3.length ≤ c0_3) (h : dolmenref9_CheckEntry.f k a0_0 a0_1 a0_2 l0_3 a0_4 a0_5 = some r) :
    Calls Try.prog 17 #[.agg #[.int .i64 a0_0, .int .i64 a0_1, .int .i64 a0_2, .slice A0_3 l0_3.length c0_3, .string a0_4, .int .i64 a0_5]] w fun e w' => e = .returned (.int .i64 r) ∧ Below w.heap.size w w' := by
  have hu32 := Try.underlying32
  have HR0_3 := Aside0.mk hr0_3
  have HC0_3 := Aside0.mk hc0_3
  clear hr0_3 hc0_3
  have HB := Aside0.mk (Below.refl w.heap.size w)
  have H : ((dolmenref9_Epoch.f a0_1).bind fun t146 => (if a0_0 = 1 then (if t146 = true then (if a0_2 ≥ 0 then (if a0_2 ≤ 2000 then (if (l0_3.length : Int) > 0 then (if ((l0_3.length : Int) ≤ (wrap64 (2000 - a0_2))) then (some 0) else (some 1)) else (some 1)) else (some 1)) else (some 1)) else (some 1)) else (if a0_0 = 2 then (if t146 = true then (if a0_2 ≥ 0 then (if a0_2 ≤ 2000 then (some 0) else (some 1)) else (some 1)) else (some 1)) else (if a0_0 = 3 then (dolmenref9_CheckEntry.j0 k t146 a0_0 (a0_0 == 3) a0_0 a0_1 a0_2 l0_3 a0_4 a0_5) else (dolmenref9_CheckEntry.j0 k t146 a0_0 (a0_0 == 4) a0_0 a0_1 a0_2 l0_3 a0_4 a0_5))))) = some r := h
  clear h
  replace H := Option.bind_eq_some_iff.mp H
  obtain ⟨t146, A20, H⟩ := H
  replace H : (if a0_0 = 1 then (if t146 = true then (if a0_2 ≥ 0 then (if a0_2 ≤ 2000 then (if (l0_3.length : Int) > 0 then (if ((l0_3.length : Int) ≤ (wrap64 (2000 - a0_2))) then (some 0) else (some 1)) else (some 1)) else (some 1)) else (some 1)) else (some 1)) else (if a0_0 = 2 then (if t146 = true then (if a0_2 ≥ 0 then (if a0_2 ≤ 2000 then (some 0) else (some 1)) else (some 1)) else (some 1)) else (if a0_0 = 3 then (dolmenref9_CheckEntry.j0 k t146 a0_0 (a0_0 == 3) a0_0 a0_1 a0_2 l0_3 a0_4 a0_5) else (dolmenref9_CheckEntry.j0 k t146 a0_0 (a0_0 == 4) a0_0 a0_1 a0_2 l0_3 a0_4 a0_5)))) = some r := H
  have A2 := Aside0.mk A20
  clear A20
  by_cases c3 : a0_0 = 1
  · rw [if_pos c3] at H
    have c3b0 : (a0_0 == 1) = true := beq_iff_eq.mpr c3
    have c3b1 : (a0_0 != 1) = false := bne_eq_false_iff_eq.mpr c3
    clear c3
    by_cases c4 : t146 = true
    · subst c4
      have H1 : (if a0_2 ≥ 0 then (if a0_2 ≤ 2000 then (if (l0_3.length : Int) > 0 then (if ((l0_3.length : Int) ≤ (wrap64 (2000 - a0_2))) then (some 0) else (some 1)) else (some 1)) else (some 1)) else (some 1)) = some r := by rw [if_pos rfl] at H; exact H
      clear H
      have H := H1
      clear H1
      by_cases c5 : a0_2 ≥ 0
      · rw [if_pos c5] at H
        have c5b0 : decide (0 ≤ a0_2) = true := decide_eq_true c5
        clear c5
        by_cases c6 : a0_2 ≤ 2000
        · rw [if_pos c6] at H
          have c6b0 : decide (a0_2 ≤ 2000) = true := decide_eq_true c6
          clear c6
          by_cases c7 : (l0_3.length : Int) > 0
          · rw [if_pos c7] at H
            have c7b0 : decide (0 < (l0_3.length : Int)) = true := decide_eq_true c7
            have c7b1 : decide (0 < l0_3.length) = true := decide_eq_true (by omega)
            clear c7
            by_cases c8 : ((l0_3.length : Int) ≤ (wrap64 (2000 - a0_2)))
            · rw [if_pos c8] at H
              have c8b0 : decide ((l0_3.length : Int) ≤ (wrap64 (2000 - a0_2))) = true := decide_eq_true c8
              clear c8
              obtain rfl := Option.some.inj H
              go_enter Try.func17, Try.ntmps17
              go_wp2_with (first | ((with_reducible refine gate_dst (N := 1) rfl ?_); (try (refine gate_guard (by rfl) ?_; dsimp only)); refine box_event ?hg (N := 1) ?hd (cs := #[.int .i64 a0_0, .int .i64 a0_1, .int .i64 a0_2, .slice A0_3 l0_3.length c0_3, .string a0_4, .int .i64 a0_5]) (t := 32) ?hr ?_; (case hd => rfl); (case hg => rfl); (case hr => first | (go_simp; done) | (go_simp; rfl)); intro gb145 hg w9 hbox hb; have n0_ := Aside0.mk (below_step (by repeat (first | (with_reducible first | exact HB.out | apply below_alloc | apply pw_below_drewN | apply below_drew1) | exact HB.out)) hb); have n1_ := Aside0.mk (hbox); have n2_ := Aside0.mk ((by rw [hg]; exact (below_size (by repeat (first | (with_reducible first | exact HB.out | apply below_alloc | apply pw_below_drewN | apply below_drew1) | exact HB.out))) : w.heap.size ≤ gb145)); have n3_ := Aside0.mk ((by rw [hg]; exact (below_size (by repeat (first | (with_reducible first | exact HB.out | apply below_alloc | apply pw_below_drewN | apply below_drew1) | exact HB.out))) : w.heap.size ≤ gb145)); clear HB; have HB := n0_; have BK145 := n1_; have GW145 := n2_; have GE145 := n3_; clear n0_ n1_ n2_ n3_; clear hb hbox hg; have hcz10_0 : w9.cell? ⟨gb145, 0, none⟩ = some (.int .i64 a0_0) := (blk_cell BK145.out 0).trans rfl; have hcz10_1 : w9.cell? ⟨gb145, 1, none⟩ = some (.int .i64 a0_1) := (blk_cell BK145.out 1).trans rfl; have hcz10_2 : w9.cell? ⟨gb145, 2, none⟩ = some (.int .i64 a0_2) := (blk_cell BK145.out 2).trans rfl; have hcz10_3 : w9.cell? ⟨gb145, 3, none⟩ = some (.slice A0_3 l0_3.length c0_3) := (blk_cell BK145.out 3).trans rfl; have hcz10_4 : w9.cell? ⟨gb145, 4, none⟩ = some (.string a0_4) := (blk_cell BK145.out 4).trans rfl; have hcz10_5 : w9.cell? ⟨gb145, 5, none⟩ = some (.int .i64 a0_5) := (blk_cell BK145.out 5).trans rfl; have hfz10_0 := blk_frozen BK145.out 0; have hfz10_1 := blk_frozen BK145.out 1; have hfz10_2 := blk_frozen BK145.out 2; have hfz10_3 := blk_frozen BK145.out 3; have hfz10_4 := blk_frozen BK145.out 4; have hfz10_5 := blk_frozen BK145.out 5) | ((with_reducible refine gate_callee (f := 22) rfl ?_); refine goesL_ (some 6) rfl rfl Try.func22 (by kernel_rfl) rfl #[.int .i64 a0_1] rfl (by (try simp only [List.map_toArray, List.map_cons, List.map_nil]); first | done | rfl | (simp only [List.length_drop, List.length_take]; rfl)) ?_; (with_reducible refine (dolmenref9_Epoch.calls a0_1 true _ A2.out).mono ?_); rintro e w' ⟨rfl, ⟨nd, rfl⟩⟩; refine ⟨_, rfl, ?_⟩))
              go_ret
              exact ⟨by first | rfl | (simp [errW_none, errW_some] <;> rfl) | (simp [*, errW_none, errW_some] <;> rfl), by repeat (first | (with_reducible first | exact HB.out | apply below_alloc | apply pw_below_drewN | apply below_drew1 | refine below_set ?_ GE145.out) | exact HB.out)⟩
            · rw [if_neg c8] at H
              have c8b0 : decide ((l0_3.length : Int) ≤ (wrap64 (2000 - a0_2))) = false := decide_eq_false c8
              clear c8
              obtain rfl := Option.some.inj H
              go_enter Try.func17, Try.ntmps17
              go_wp2_with (first | ((with_reducible refine gate_dst (N := 1) rfl ?_); (try (refine gate_guard (by rfl) ?_; dsimp only)); refine box_event ?hg (N := 1) ?hd (cs := #[.int .i64 a0_0, .int .i64 a0_1, .int .i64 a0_2, .slice A0_3 l0_3.length c0_3, .string a0_4, .int .i64 a0_5]) (t := 32) ?hr ?_; (case hd => rfl); (case hg => rfl); (case hr => first | (go_simp; done) | (go_simp; rfl)); intro gb145 hg w11 hbox hb; have n0_ := Aside0.mk (below_step (by repeat (first | (with_reducible first | exact HB.out | apply below_alloc | apply pw_below_drewN | apply below_drew1) | exact HB.out)) hb); have n1_ := Aside0.mk (hbox); have n2_ := Aside0.mk ((by rw [hg]; exact (below_size (by repeat (first | (with_reducible first | exact HB.out | apply below_alloc | apply pw_below_drewN | apply below_drew1) | exact HB.out))) : w.heap.size ≤ gb145)); have n3_ := Aside0.mk ((by rw [hg]; exact (below_size (by repeat (first | (with_reducible first | exact HB.out | apply below_alloc | apply pw_below_drewN | apply below_drew1) | exact HB.out))) : w.heap.size ≤ gb145)); clear HB; have HB := n0_; have BK145 := n1_; have GW145 := n2_; have GE145 := n3_; clear n0_ n1_ n2_ n3_; clear hb hbox hg; have hcz12_0 : w11.cell? ⟨gb145, 0, none⟩ = some (.int .i64 a0_0) := (blk_cell BK145.out 0).trans rfl; have hcz12_1 : w11.cell? ⟨gb145, 1, none⟩ = some (.int .i64 a0_1) := (blk_cell BK145.out 1).trans rfl; have hcz12_2 : w11.cell? ⟨gb145, 2, none⟩ = some (.int .i64 a0_2) := (blk_cell BK145.out 2).trans rfl; have hcz12_3 : w11.cell? ⟨gb145, 3, none⟩ = some (.slice A0_3 l0_3.length c0_3) := (blk_cell BK145.out 3).trans rfl; have hcz12_4 : w11.cell? ⟨gb145, 4, none⟩ = some (.string a0_4) := (blk_cell BK145.out 4).trans rfl; have hcz12_5 : w11.cell? ⟨gb145, 5, none⟩ = some (.int .i64 a0_5) := (blk_cell BK145.out 5).trans rfl; have hfz12_0 := blk_frozen BK145.out 0; have hfz12_1 := blk_frozen BK145.out 1; have hfz12_2 := blk_frozen BK145.out 2; have hfz12_3 := blk_frozen BK145.out 3; have hfz12_4 := blk_frozen BK145.out 4; have hfz12_5 := blk_frozen BK145.out 5) | ((with_reducible refine gate_callee (f := 22) rfl ?_); refine goesL_ (some 6) rfl rfl Try.func22 (by kernel_rfl) rfl #[.int .i64 a0_1] rfl (by (try simp only [List.map_toArray, List.map_cons, List.map_nil]); first | done | rfl | (simp only [List.length_drop, List.length_take]; rfl)) ?_; (with_reducible refine (dolmenref9_Epoch.calls a0_1 true _ A2.out).mono ?_); rintro e w' ⟨rfl, ⟨nd, rfl⟩⟩; refine ⟨_, rfl, ?_⟩))
              go_ret
              exact ⟨by first | rfl | (simp [errW_none, errW_some] <;> rfl) | (simp [*, errW_none, errW_some] <;> rfl), by repeat (first | (with_reducible first | exact HB.out | apply below_alloc | apply pw_below_drewN | apply below_drew1 | refine below_set ?_ GE145.out) | exact HB.out)⟩
          · rw [if_neg c7] at H
            have c7b0 : decide (0 < (l0_3.length : Int)) = false := decide_eq_false c7
            have c7b1 : decide (0 < l0_3.length) = false := decide_eq_false (by omega)
            clear c7
            obtain rfl := Option.some.inj H
            go_enter Try.func17, Try.ntmps17
            go_wp2_with (first | ((with_reducible refine gate_dst (N := 1) rfl ?_); (try (refine gate_guard (by rfl) ?_; dsimp only)); refine box_event ?hg (N := 1) ?hd (cs := #[.int .i64 a0_0, .int .i64 a0_1, .int .i64 a0_2, .slice A0_3 l0_3.length c0_3, .string a0_4, .int .i64 a0_5]) (t := 32) ?hr ?_; (case hd => rfl); (case hg => rfl); (case hr => first | (go_simp; done) | (go_simp; rfl)); intro gb145 hg w13 hbox hb; have n0_ := Aside0.mk (below_step (by repeat (first | (with_reducible first | exact HB.out | apply below_alloc | apply pw_below_drewN | apply below_drew1) | exact HB.out)) hb); have n1_ := Aside0.mk (hbox); have n2_ := Aside0.mk ((by rw [hg]; exact (below_size (by repeat (first | (with_reducible first | exact HB.out | apply below_alloc | apply pw_below_drewN | apply below_drew1) | exact HB.out))) : w.heap.size ≤ gb145)); have n3_ := Aside0.mk ((by rw [hg]; exact (below_size (by repeat (first | (with_reducible first | exact HB.out | apply below_alloc | apply pw_below_drewN | apply below_drew1) | exact HB.out))) : w.heap.size ≤ gb145)); clear HB; have HB := n0_; have BK145 := n1_; have GW145 := n2_; have GE145 := n3_; clear n0_ n1_ n2_ n3_; clear hb hbox hg; have hcz14_0 : w13.cell? ⟨gb145, 0, none⟩ = some (.int .i64 a0_0) := (blk_cell BK145.out 0).trans rfl; have hcz14_1 : w13.cell? ⟨gb145, 1, none⟩ = some (.int .i64 a0_1) := (blk_cell BK145.out 1).trans rfl; have hcz14_2 : w13.cell? ⟨gb145, 2, none⟩ = some (.int .i64 a0_2) := (blk_cell BK145.out 2).trans rfl; have hcz14_3 : w13.cell? ⟨gb145, 3, none⟩ = some (.slice A0_3 l0_3.length c0_3) := (blk_cell BK145.out 3).trans rfl; have hcz14_4 : w13.cell? ⟨gb145, 4, none⟩ = some (.string a0_4) := (blk_cell BK145.out 4).trans rfl; have hcz14_5 : w13.cell? ⟨gb145, 5, none⟩ = some (.int .i64 a0_5) := (blk_cell BK145.out 5).trans rfl; have hfz14_0 := blk_frozen BK145.out 0; have hfz14_1 := blk_frozen BK145.out 1; have hfz14_2 := blk_frozen BK145.out 2; have hfz14_3 := blk_frozen BK145.out 3; have hfz14_4 := blk_frozen BK145.out 4; have hfz14_5 := blk_frozen BK145.out 5) | ((with_reducible refine gate_callee (f := 22) rfl ?_); refine goesL_ (some 6) rfl rfl Try.func22 (by kernel_rfl) rfl #[.int .i64 a0_1] rfl (by (try simp only [List.map_toArray, List.map_cons, List.map_nil]); first | done | rfl | (simp only [List.length_drop, List.length_take]; rfl)) ?_; (with_reducible refine (dolmenref9_Epoch.calls a0_1 true _ A2.out).mono ?_); rintro e w' ⟨rfl, ⟨nd, rfl⟩⟩; refine ⟨_, rfl, ?_⟩))
            go_ret
            exact ⟨by first | rfl | (simp [errW_none, errW_some] <;> rfl) | (simp [*, errW_none, errW_some] <;> rfl), by repeat (first | (with_reducible first | exact HB.out | apply below_alloc | apply pw_below_drewN | apply below_drew1 | refine below_set ?_ GE145.out) | exact HB.out)⟩
        · rw [if_neg c6] at H
          have c6b0 : decide (a0_2 ≤ 2000) = false := decide_eq_false c6
          clear c6
          obtain rfl := Option.some.inj H
          go_enter Try.func17, Try.ntmps17
          go_wp2_with (first | ((with_reducible refine gate_dst (N := 1) rfl ?_); (try (refine gate_guard (by rfl) ?_; dsimp only)); refine box_event ?hg (N := 1) ?hd (cs := #[.int .i64 a0_0, .int .i64 a0_1, .int .i64 a0_2, .slice A0_3 l0_3.length c0_3, .string a0_4, .int .i64 a0_5]) (t := 32) ?hr ?_; (case hd => rfl); (case hg => rfl); (case hr => first | (go_simp; done) | (go_simp; rfl)); intro gb145 hg w15 hbox hb; have n0_ := Aside0.mk (below_step (by repeat (first | (with_reducible first | exact HB.out | apply below_alloc | apply pw_below_drewN | apply below_drew1) | exact HB.out)) hb); have n1_ := Aside0.mk (hbox); have n2_ := Aside0.mk ((by rw [hg]; exact (below_size (by repeat (first | (with_reducible first | exact HB.out | apply below_alloc | apply pw_below_drewN | apply below_drew1) | exact HB.out))) : w.heap.size ≤ gb145)); have n3_ := Aside0.mk ((by rw [hg]; exact (below_size (by repeat (first | (with_reducible first | exact HB.out | apply below_alloc | apply pw_below_drewN | apply below_drew1) | exact HB.out))) : w.heap.size ≤ gb145)); clear HB; have HB := n0_; have BK145 := n1_; have GW145 := n2_; have GE145 := n3_; clear n0_ n1_ n2_ n3_; clear hb hbox hg; have hcz16_0 : w15.cell? ⟨gb145, 0, none⟩ = some (.int .i64 a0_0) := (blk_cell BK145.out 0).trans rfl; have hcz16_1 : w15.cell? ⟨gb145, 1, none⟩ = some (.int .i64 a0_1) := (blk_cell BK145.out 1).trans rfl; have hcz16_2 : w15.cell? ⟨gb145, 2, none⟩ = some (.int .i64 a0_2) := (blk_cell BK145.out 2).trans rfl; have hcz16_3 : w15.cell? ⟨gb145, 3, none⟩ = some (.slice A0_3 l0_3.length c0_3) := (blk_cell BK145.out 3).trans rfl; have hcz16_4 : w15.cell? ⟨gb145, 4, none⟩ = some (.string a0_4) := (blk_cell BK145.out 4).trans rfl; have hcz16_5 : w15.cell? ⟨gb145, 5, none⟩ = some (.int .i64 a0_5) := (blk_cell BK145.out 5).trans rfl; have hfz16_0 := blk_frozen BK145.out 0; have hfz16_1 := blk_frozen BK145.out 1; have hfz16_2 := blk_frozen BK145.out 2; have hfz16_3 := blk_frozen BK145.out 3; have hfz16_4 := blk_frozen BK145.out 4; have hfz16_5 := blk_frozen BK145.out 5) | ((with_reducible refine gate_callee (f := 22) rfl ?_); refine goesL_ (some 6) rfl rfl Try.func22 (by kernel_rfl) rfl #[.int .i64 a0_1] rfl (by (try simp only [List.map_toArray, List.map_cons, List.map_nil]); first | done | rfl | (simp only [List.length_drop, List.length_take]; rfl)) ?_; (with_reducible refine (dolmenref9_Epoch.calls a0_1 true _ A2.out).mono ?_); rintro e w' ⟨rfl, ⟨nd, rfl⟩⟩; refine ⟨_, rfl, ?_⟩))
          go_ret
          exact ⟨by first | rfl | (simp [errW_none, errW_some] <;> rfl) | (simp [*, errW_none, errW_some] <;> rfl), by repeat (first | (with_reducible first | exact HB.out | apply below_alloc | apply pw_below_drewN | apply below_drew1 | refine below_set ?_ GE145.out) | exact HB.out)⟩
      · rw [if_neg c5] at H
        have c5b0 : decide (0 ≤ a0_2) = false := decide_eq_false c5
        clear c5
        obtain rfl := Option.some.inj H
        go_enter Try.func17, Try.ntmps17
        go_wp2_with (first | ((with_reducible refine gate_dst (N := 1) rfl ?_); (try (refine gate_guard (by rfl) ?_; dsimp only)); refine box_event ?hg (N := 1) ?hd (cs := #[.int .i64 a0_0, .int .i64 a0_1, .int .i64 a0_2, .slice A0_3 l0_3.length c0_3, .string a0_4, .int .i64 a0_5]) (t := 32) ?hr ?_; (case hd => rfl); (case hg => rfl); (case hr => first | (go_simp; done) | (go_simp; rfl)); intro gb145 hg w17 hbox hb; have n0_ := Aside0.mk (below_step (by repeat (first | (with_reducible first | exact HB.out | apply below_alloc | apply pw_below_drewN | apply below_drew1) | exact HB.out)) hb); have n1_ := Aside0.mk (hbox); have n2_ := Aside0.mk ((by rw [hg]; exact (below_size (by repeat (first | (with_reducible first | exact HB.out | apply below_alloc | apply pw_below_drewN | apply below_drew1) | exact HB.out))) : w.heap.size ≤ gb145)); have n3_ := Aside0.mk ((by rw [hg]; exact (below_size (by repeat (first | (with_reducible first | exact HB.out | apply below_alloc | apply pw_below_drewN | apply below_drew1) | exact HB.out))) : w.heap.size ≤ gb145)); clear HB; have HB := n0_; have BK145 := n1_; have GW145 := n2_; have GE145 := n3_; clear n0_ n1_ n2_ n3_; clear hb hbox hg; have hcz18_0 : w17.cell? ⟨gb145, 0, none⟩ = some (.int .i64 a0_0) := (blk_cell BK145.out 0).trans rfl; have hcz18_1 : w17.cell? ⟨gb145, 1, none⟩ = some (.int .i64 a0_1) := (blk_cell BK145.out 1).trans rfl; have hcz18_2 : w17.cell? ⟨gb145, 2, none⟩ = some (.int .i64 a0_2) := (blk_cell BK145.out 2).trans rfl; have hcz18_3 : w17.cell? ⟨gb145, 3, none⟩ = some (.slice A0_3 l0_3.length c0_3) := (blk_cell BK145.out 3).trans rfl; have hcz18_4 : w17.cell? ⟨gb145, 4, none⟩ = some (.string a0_4) := (blk_cell BK145.out 4).trans rfl; have hcz18_5 : w17.cell? ⟨gb145, 5, none⟩ = some (.int .i64 a0_5) := (blk_cell BK145.out 5).trans rfl; have hfz18_0 := blk_frozen BK145.out 0; have hfz18_1 := blk_frozen BK145.out 1; have hfz18_2 := blk_frozen BK145.out 2; have hfz18_3 := blk_frozen BK145.out 3; have hfz18_4 := blk_frozen BK145.out 4; have hfz18_5 := blk_frozen BK145.out 5) | ((with_reducible refine gate_callee (f := 22) rfl ?_); refine goesL_ (some 6) rfl rfl Try.func22 (by kernel_rfl) rfl #[.int .i64 a0_1] rfl (by (try simp only [List.map_toArray, List.map_cons, List.map_nil]); first | done | rfl | (simp only [List.length_drop, List.length_take]; rfl)) ?_; (with_reducible refine (dolmenref9_Epoch.calls a0_1 true _ A2.out).mono ?_); rintro e w' ⟨rfl, ⟨nd, rfl⟩⟩; refine ⟨_, rfl, ?_⟩))
        go_ret
        exact ⟨by first | rfl | (simp [errW_none, errW_some] <;> rfl) | (simp [*, errW_none, errW_some] <;> rfl), by repeat (first | (with_reducible first | exact HB.out | apply below_alloc | apply pw_below_drewN | apply below_drew1 | refine below_set ?_ GE145.out) | exact HB.out)⟩
    · replace c4 := Bool.eq_false_iff.mpr c4
      subst c4
      have H1 : (some 1) = some r := by rw [if_neg (show ¬ (false = true) by decide)] at H; exact H
      clear H
      have H := H1
      clear H1
      obtain rfl := Option.some.inj H
      go_enter Try.func17, Try.ntmps17
      go_wp2_with (first | ((with_reducible refine gate_dst (N := 1) rfl ?_); (try (refine gate_guard (by rfl) ?_; dsimp only)); refine box_event ?hg (N := 1) ?hd (cs := #[.int .i64 a0_0, .int .i64 a0_1, .int .i64 a0_2, .slice A0_3 l0_3.length c0_3, .string a0_4, .int .i64 a0_5]) (t := 32) ?hr ?_; (case hd => rfl); (case hg => rfl); (case hr => first | (go_simp; done) | (go_simp; rfl)); intro gb145 hg w19 hbox hb; have n0_ := Aside0.mk (below_step (by repeat (first | (with_reducible first | exact HB.out | apply below_alloc | apply pw_below_drewN | apply below_drew1) | exact HB.out)) hb); have n1_ := Aside0.mk (hbox); have n2_ := Aside0.mk ((by rw [hg]; exact (below_size (by repeat (first | (with_reducible first | exact HB.out | apply below_alloc | apply pw_below_drewN | apply below_drew1) | exact HB.out))) : w.heap.size ≤ gb145)); have n3_ := Aside0.mk ((by rw [hg]; exact (below_size (by repeat (first | (with_reducible first | exact HB.out | apply below_alloc | apply pw_below_drewN | apply below_drew1) | exact HB.out))) : w.heap.size ≤ gb145)); clear HB; have HB := n0_; have BK145 := n1_; have GW145 := n2_; have GE145 := n3_; clear n0_ n1_ n2_ n3_; clear hb hbox hg; have hcz20_0 : w19.cell? ⟨gb145, 0, none⟩ = some (.int .i64 a0_0) := (blk_cell BK145.out 0).trans rfl; have hcz20_1 : w19.cell? ⟨gb145, 1, none⟩ = some (.int .i64 a0_1) := (blk_cell BK145.out 1).trans rfl; have hcz20_2 : w19.cell? ⟨gb145, 2, none⟩ = some (.int .i64 a0_2) := (blk_cell BK145.out 2).trans rfl; have hcz20_3 : w19.cell? ⟨gb145, 3, none⟩ = some (.slice A0_3 l0_3.length c0_3) := (blk_cell BK145.out 3).trans rfl; have hcz20_4 : w19.cell? ⟨gb145, 4, none⟩ = some (.string a0_4) := (blk_cell BK145.out 4).trans rfl; have hcz20_5 : w19.cell? ⟨gb145, 5, none⟩ = some (.int .i64 a0_5) := (blk_cell BK145.out 5).trans rfl; have hfz20_0 := blk_frozen BK145.out 0; have hfz20_1 := blk_frozen BK145.out 1; have hfz20_2 := blk_frozen BK145.out 2; have hfz20_3 := blk_frozen BK145.out 3; have hfz20_4 := blk_frozen BK145.out 4; have hfz20_5 := blk_frozen BK145.out 5) | ((with_reducible refine gate_callee (f := 22) rfl ?_); refine goesL_ (some 6) rfl rfl Try.func22 (by kernel_rfl) rfl #[.int .i64 a0_1] rfl (by (try simp only [List.map_toArray, List.map_cons, List.map_nil]); first | done | rfl | (simp only [List.length_drop, List.length_take]; rfl)) ?_; (with_reducible refine (dolmenref9_Epoch.calls a0_1 false _ A2.out).mono ?_); rintro e w' ⟨rfl, ⟨nd, rfl⟩⟩; refine ⟨_, rfl, ?_⟩))
      go_ret
      exact ⟨by first | rfl | (simp [errW_none, errW_some] <;> rfl) | (simp [*, errW_none, errW_some] <;> rfl), by repeat (first | (with_reducible first | exact HB.out | apply below_alloc | apply pw_below_drewN | apply below_drew1 | refine below_set ?_ GE145.out) | exact HB.out)⟩
  · rw [if_neg c3] at H
    have c3b0 : (a0_0 == 1) = false := beq_eq_false_iff_ne.mpr c3
    have c3b1 : (a0_0 != 1) = true := bne_iff_ne.mpr c3
    by_cases c21 : a0_0 = 2
    · rw [if_pos c21] at H
      have c21b0 : (a0_0 == 2) = true := beq_iff_eq.mpr c21
      have c21b1 : (a0_0 != 2) = false := bne_eq_false_iff_eq.mpr c21
      clear c21
      by_cases c22 : t146 = true
      · subst c22
        have H1 : (if a0_2 ≥ 0 then (if a0_2 ≤ 2000 then (some 0) else (some 1)) else (some 1)) = some r := by rw [if_pos rfl] at H; exact H
        clear H
        have H := H1
        clear H1
        by_cases c23 : a0_2 ≥ 0
        · rw [if_pos c23] at H
          have c23b0 : decide (0 ≤ a0_2) = true := decide_eq_true c23
          clear c23
          by_cases c24 : a0_2 ≤ 2000
          · rw [if_pos c24] at H
            have c24b0 : decide (a0_2 ≤ 2000) = true := decide_eq_true c24
            clear c24
            obtain rfl := Option.some.inj H
            go_enter Try.func17, Try.ntmps17
            go_wp2_with (first | ((with_reducible refine gate_dst (N := 1) rfl ?_); (try (refine gate_guard (by rfl) ?_; dsimp only)); refine box_event ?hg (N := 1) ?hd (cs := #[.int .i64 a0_0, .int .i64 a0_1, .int .i64 a0_2, .slice A0_3 l0_3.length c0_3, .string a0_4, .int .i64 a0_5]) (t := 32) ?hr ?_; (case hd => rfl); (case hg => rfl); (case hr => first | (go_simp; done) | (go_simp; rfl)); intro gb145 hg w25 hbox hb; have n0_ := Aside0.mk (below_step (by repeat (first | (with_reducible first | exact HB.out | apply below_alloc | apply pw_below_drewN | apply below_drew1) | exact HB.out)) hb); have n1_ := Aside0.mk (hbox); have n2_ := Aside0.mk ((by rw [hg]; exact (below_size (by repeat (first | (with_reducible first | exact HB.out | apply below_alloc | apply pw_below_drewN | apply below_drew1) | exact HB.out))) : w.heap.size ≤ gb145)); have n3_ := Aside0.mk ((by rw [hg]; exact (below_size (by repeat (first | (with_reducible first | exact HB.out | apply below_alloc | apply pw_below_drewN | apply below_drew1) | exact HB.out))) : w.heap.size ≤ gb145)); clear HB; have HB := n0_; have BK145 := n1_; have GW145 := n2_; have GE145 := n3_; clear n0_ n1_ n2_ n3_; clear hb hbox hg; have hcz26_0 : w25.cell? ⟨gb145, 0, none⟩ = some (.int .i64 a0_0) := (blk_cell BK145.out 0).trans rfl; have hcz26_1 : w25.cell? ⟨gb145, 1, none⟩ = some (.int .i64 a0_1) := (blk_cell BK145.out 1).trans rfl; have hcz26_2 : w25.cell? ⟨gb145, 2, none⟩ = some (.int .i64 a0_2) := (blk_cell BK145.out 2).trans rfl; have hcz26_3 : w25.cell? ⟨gb145, 3, none⟩ = some (.slice A0_3 l0_3.length c0_3) := (blk_cell BK145.out 3).trans rfl; have hcz26_4 : w25.cell? ⟨gb145, 4, none⟩ = some (.string a0_4) := (blk_cell BK145.out 4).trans rfl; have hcz26_5 : w25.cell? ⟨gb145, 5, none⟩ = some (.int .i64 a0_5) := (blk_cell BK145.out 5).trans rfl; have hfz26_0 := blk_frozen BK145.out 0; have hfz26_1 := blk_frozen BK145.out 1; have hfz26_2 := blk_frozen BK145.out 2; have hfz26_3 := blk_frozen BK145.out 3; have hfz26_4 := blk_frozen BK145.out 4; have hfz26_5 := blk_frozen BK145.out 5) | ((with_reducible refine gate_callee (f := 22) rfl ?_); refine goesL_ (some 6) rfl rfl Try.func22 (by kernel_rfl) rfl #[.int .i64 a0_1] rfl (by (try simp only [List.map_toArray, List.map_cons, List.map_nil]); first | done | rfl | (simp only [List.length_drop, List.length_take]; rfl)) ?_; (with_reducible refine (dolmenref9_Epoch.calls a0_1 true _ A2.out).mono ?_); rintro e w' ⟨rfl, ⟨nd, rfl⟩⟩; refine ⟨_, rfl, ?_⟩))
            go_ret
            exact ⟨by first | rfl | (simp [errW_none, errW_some] <;> rfl) | (simp [*, errW_none, errW_some] <;> rfl), by repeat (first | (with_reducible first | exact HB.out | apply below_alloc | apply pw_below_drewN | apply below_drew1 | refine below_set ?_ GE145.out) | exact HB.out)⟩
          · rw [if_neg c24] at H
            have c24b0 : decide (a0_2 ≤ 2000) = false := decide_eq_false c24
            clear c24
            obtain rfl := Option.some.inj H
            go_enter Try.func17, Try.ntmps17
            go_wp2_with (first | ((with_reducible refine gate_dst (N := 1) rfl ?_); (try (refine gate_guard (by rfl) ?_; dsimp only)); refine box_event ?hg (N := 1) ?hd (cs := #[.int .i64 a0_0, .int .i64 a0_1, .int .i64 a0_2, .slice A0_3 l0_3.length c0_3, .string a0_4, .int .i64 a0_5]) (t := 32) ?hr ?_; (case hd => rfl); (case hg => rfl); (case hr => first | (go_simp; done) | (go_simp; rfl)); intro gb145 hg w27 hbox hb; have n0_ := Aside0.mk (below_step (by repeat (first | (with_reducible first | exact HB.out | apply below_alloc | apply pw_below_drewN | apply below_drew1) | exact HB.out)) hb); have n1_ := Aside0.mk (hbox); have n2_ := Aside0.mk ((by rw [hg]; exact (below_size (by repeat (first | (with_reducible first | exact HB.out | apply below_alloc | apply pw_below_drewN | apply below_drew1) | exact HB.out))) : w.heap.size ≤ gb145)); have n3_ := Aside0.mk ((by rw [hg]; exact (below_size (by repeat (first | (with_reducible first | exact HB.out | apply below_alloc | apply pw_below_drewN | apply below_drew1) | exact HB.out))) : w.heap.size ≤ gb145)); clear HB; have HB := n0_; have BK145 := n1_; have GW145 := n2_; have GE145 := n3_; clear n0_ n1_ n2_ n3_; clear hb hbox hg; have hcz28_0 : w27.cell? ⟨gb145, 0, none⟩ = some (.int .i64 a0_0) := (blk_cell BK145.out 0).trans rfl; have hcz28_1 : w27.cell? ⟨gb145, 1, none⟩ = some (.int .i64 a0_1) := (blk_cell BK145.out 1).trans rfl; have hcz28_2 : w27.cell? ⟨gb145, 2, none⟩ = some (.int .i64 a0_2) := (blk_cell BK145.out 2).trans rfl; have hcz28_3 : w27.cell? ⟨gb145, 3, none⟩ = some (.slice A0_3 l0_3.length c0_3) := (blk_cell BK145.out 3).trans rfl; have hcz28_4 : w27.cell? ⟨gb145, 4, none⟩ = some (.string a0_4) := (blk_cell BK145.out 4).trans rfl; have hcz28_5 : w27.cell? ⟨gb145, 5, none⟩ = some (.int .i64 a0_5) := (blk_cell BK145.out 5).trans rfl; have hfz28_0 := blk_frozen BK145.out 0; have hfz28_1 := blk_frozen BK145.out 1; have hfz28_2 := blk_frozen BK145.out 2; have hfz28_3 := blk_frozen BK145.out 3; have hfz28_4 := blk_frozen BK145.out 4; have hfz28_5 := blk_frozen BK145.out 5) | ((with_reducible refine gate_callee (f := 22) rfl ?_); refine goesL_ (some 6) rfl rfl Try.func22 (by kernel_rfl) rfl #[.int .i64 a0_1] rfl (by (try simp only [List.map_toArray, List.map_cons, List.map_nil]); first | done | rfl | (simp only [List.length_drop, List.length_take]; rfl)) ?_; (with_reducible refine (dolmenref9_Epoch.calls a0_1 true _ A2.out).mono ?_); rintro e w' ⟨rfl, ⟨nd, rfl⟩⟩; refine ⟨_, rfl, ?_⟩))
            go_ret
            exact ⟨by first | rfl | (simp [errW_none, errW_some] <;> rfl) | (simp [*, errW_none, errW_some] <;> rfl), by repeat (first | (with_reducible first | exact HB.out | apply below_alloc | apply pw_below_drewN | apply below_drew1 | refine below_set ?_ GE145.out) | exact HB.out)⟩
        · rw [if_neg c23] at H
          have c23b0 : decide (0 ≤ a0_2) = false := decide_eq_false c23
          clear c23
          obtain rfl := Option.some.inj H
          go_enter Try.func17, Try.ntmps17
          go_wp2_with (first | ((with_reducible refine gate_dst (N := 1) rfl ?_); (try (refine gate_guard (by rfl) ?_; dsimp only)); refine box_event ?hg (N := 1) ?hd (cs := #[.int .i64 a0_0, .int .i64 a0_1, .int .i64 a0_2, .slice A0_3 l0_3.length c0_3, .string a0_4, .int .i64 a0_5]) (t := 32) ?hr ?_; (case hd => rfl); (case hg => rfl); (case hr => first | (go_simp; done) | (go_simp; rfl)); intro gb145 hg w29 hbox hb; have n0_ := Aside0.mk (below_step (by repeat (first | (with_reducible first | exact HB.out | apply below_alloc | apply pw_below_drewN | apply below_drew1) | exact HB.out)) hb); have n1_ := Aside0.mk (hbox); have n2_ := Aside0.mk ((by rw [hg]; exact (below_size (by repeat (first | (with_reducible first | exact HB.out | apply below_alloc | apply pw_below_drewN | apply below_drew1) | exact HB.out))) : w.heap.size ≤ gb145)); have n3_ := Aside0.mk ((by rw [hg]; exact (below_size (by repeat (first | (with_reducible first | exact HB.out | apply below_alloc | apply pw_below_drewN | apply below_drew1) | exact HB.out))) : w.heap.size ≤ gb145)); clear HB; have HB := n0_; have BK145 := n1_; have GW145 := n2_; have GE145 := n3_; clear n0_ n1_ n2_ n3_; clear hb hbox hg; have hcz30_0 : w29.cell? ⟨gb145, 0, none⟩ = some (.int .i64 a0_0) := (blk_cell BK145.out 0).trans rfl; have hcz30_1 : w29.cell? ⟨gb145, 1, none⟩ = some (.int .i64 a0_1) := (blk_cell BK145.out 1).trans rfl; have hcz30_2 : w29.cell? ⟨gb145, 2, none⟩ = some (.int .i64 a0_2) := (blk_cell BK145.out 2).trans rfl; have hcz30_3 : w29.cell? ⟨gb145, 3, none⟩ = some (.slice A0_3 l0_3.length c0_3) := (blk_cell BK145.out 3).trans rfl; have hcz30_4 : w29.cell? ⟨gb145, 4, none⟩ = some (.string a0_4) := (blk_cell BK145.out 4).trans rfl; have hcz30_5 : w29.cell? ⟨gb145, 5, none⟩ = some (.int .i64 a0_5) := (blk_cell BK145.out 5).trans rfl; have hfz30_0 := blk_frozen BK145.out 0; have hfz30_1 := blk_frozen BK145.out 1; have hfz30_2 := blk_frozen BK145.out 2; have hfz30_3 := blk_frozen BK145.out 3; have hfz30_4 := blk_frozen BK145.out 4; have hfz30_5 := blk_frozen BK145.out 5) | ((with_reducible refine gate_callee (f := 22) rfl ?_); refine goesL_ (some 6) rfl rfl Try.func22 (by kernel_rfl) rfl #[.int .i64 a0_1] rfl (by (try simp only [List.map_toArray, List.map_cons, List.map_nil]); first | done | rfl | (simp only [List.length_drop, List.length_take]; rfl)) ?_; (with_reducible refine (dolmenref9_Epoch.calls a0_1 true _ A2.out).mono ?_); rintro e w' ⟨rfl, ⟨nd, rfl⟩⟩; refine ⟨_, rfl, ?_⟩))
          go_ret
          exact ⟨by first | rfl | (simp [errW_none, errW_some] <;> rfl) | (simp [*, errW_none, errW_some] <;> rfl), by repeat (first | (with_reducible first | exact HB.out | apply below_alloc | apply pw_below_drewN | apply below_drew1 | refine below_set ?_ GE145.out) | exact HB.out)⟩
      · replace c22 := Bool.eq_false_iff.mpr c22
        subst c22
        have H1 : (some 1) = some r := by rw [if_neg (show ¬ (false = true) by decide)] at H; exact H
        clear H
        have H := H1
        clear H1
        obtain rfl := Option.some.inj H
        go_enter Try.func17, Try.ntmps17
        go_wp2_with (first | ((with_reducible refine gate_dst (N := 1) rfl ?_); (try (refine gate_guard (by rfl) ?_; dsimp only)); refine box_event ?hg (N := 1) ?hd (cs := #[.int .i64 a0_0, .int .i64 a0_1, .int .i64 a0_2, .slice A0_3 l0_3.length c0_3, .string a0_4, .int .i64 a0_5]) (t := 32) ?hr ?_; (case hd => rfl); (case hg => rfl); (case hr => first | (go_simp; done) | (go_simp; rfl)); intro gb145 hg w31 hbox hb; have n0_ := Aside0.mk (below_step (by repeat (first | (with_reducible first | exact HB.out | apply below_alloc | apply pw_below_drewN | apply below_drew1) | exact HB.out)) hb); have n1_ := Aside0.mk (hbox); have n2_ := Aside0.mk ((by rw [hg]; exact (below_size (by repeat (first | (with_reducible first | exact HB.out | apply below_alloc | apply pw_below_drewN | apply below_drew1) | exact HB.out))) : w.heap.size ≤ gb145)); have n3_ := Aside0.mk ((by rw [hg]; exact (below_size (by repeat (first | (with_reducible first | exact HB.out | apply below_alloc | apply pw_below_drewN | apply below_drew1) | exact HB.out))) : w.heap.size ≤ gb145)); clear HB; have HB := n0_; have BK145 := n1_; have GW145 := n2_; have GE145 := n3_; clear n0_ n1_ n2_ n3_; clear hb hbox hg; have hcz32_0 : w31.cell? ⟨gb145, 0, none⟩ = some (.int .i64 a0_0) := (blk_cell BK145.out 0).trans rfl; have hcz32_1 : w31.cell? ⟨gb145, 1, none⟩ = some (.int .i64 a0_1) := (blk_cell BK145.out 1).trans rfl; have hcz32_2 : w31.cell? ⟨gb145, 2, none⟩ = some (.int .i64 a0_2) := (blk_cell BK145.out 2).trans rfl; have hcz32_3 : w31.cell? ⟨gb145, 3, none⟩ = some (.slice A0_3 l0_3.length c0_3) := (blk_cell BK145.out 3).trans rfl; have hcz32_4 : w31.cell? ⟨gb145, 4, none⟩ = some (.string a0_4) := (blk_cell BK145.out 4).trans rfl; have hcz32_5 : w31.cell? ⟨gb145, 5, none⟩ = some (.int .i64 a0_5) := (blk_cell BK145.out 5).trans rfl; have hfz32_0 := blk_frozen BK145.out 0; have hfz32_1 := blk_frozen BK145.out 1; have hfz32_2 := blk_frozen BK145.out 2; have hfz32_3 := blk_frozen BK145.out 3; have hfz32_4 := blk_frozen BK145.out 4; have hfz32_5 := blk_frozen BK145.out 5) | ((with_reducible refine gate_callee (f := 22) rfl ?_); refine goesL_ (some 6) rfl rfl Try.func22 (by kernel_rfl) rfl #[.int .i64 a0_1] rfl (by (try simp only [List.map_toArray, List.map_cons, List.map_nil]); first | done | rfl | (simp only [List.length_drop, List.length_take]; rfl)) ?_; (with_reducible refine (dolmenref9_Epoch.calls a0_1 false _ A2.out).mono ?_); rintro e w' ⟨rfl, ⟨nd, rfl⟩⟩; refine ⟨_, rfl, ?_⟩))
        go_ret
        exact ⟨by first | rfl | (simp [errW_none, errW_some] <;> rfl) | (simp [*, errW_none, errW_some] <;> rfl), by repeat (first | (with_reducible first | exact HB.out | apply below_alloc | apply pw_below_drewN | apply below_drew1 | refine below_set ?_ GE145.out) | exact HB.out)⟩
    · rw [if_neg c21] at H
      have c21b0 : (a0_0 == 2) = false := beq_eq_false_iff_ne.mpr c21
      have c21b1 : (a0_0 != 2) = true := bne_iff_ne.mpr c21
      have HC33 := Aside0.mk H
      clear H
      go_enter Try.func17, Try.ntmps17
      go_upto_if 50 with (first | ((with_reducible refine gate_dst (N := 1) rfl ?_); (try (refine gate_guard (by rfl) ?_; dsimp only)); refine box_event ?hg (N := 1) ?hd (cs := #[.int .i64 a0_0, .int .i64 a0_1, .int .i64 a0_2, .slice A0_3 l0_3.length c0_3, .string a0_4, .int .i64 a0_5]) (t := 32) ?hr ?_; (case hd => rfl); (case hg => rfl); (case hr => first | (go_simp; done) | (go_simp; rfl)); intro gb145 hg w34 hbox hb; have n0_ := Aside0.mk (below_step (by repeat (first | (with_reducible first | exact HB.out | apply below_alloc | apply pw_below_drewN | apply below_drew1) | exact HB.out)) hb); have n1_ := Aside0.mk (hbox); have n2_ := Aside0.mk ((by rw [hg]; exact (below_size (by repeat (first | (with_reducible first | exact HB.out | apply below_alloc | apply pw_below_drewN | apply below_drew1) | exact HB.out))) : w.heap.size ≤ gb145)); have n3_ := Aside0.mk ((by rw [hg]; exact (below_size (by repeat (first | (with_reducible first | exact HB.out | apply below_alloc | apply pw_below_drewN | apply below_drew1) | exact HB.out))) : w.heap.size ≤ gb145)); clear HB; have HB := n0_; have BK145 := n1_; have GW145 := n2_; have GE145 := n3_; clear n0_ n1_ n2_ n3_; clear hb hbox hg; have hcz35_0 : w34.cell? ⟨gb145, 0, none⟩ = some (.int .i64 a0_0) := (blk_cell BK145.out 0).trans rfl; have hcz35_1 : w34.cell? ⟨gb145, 1, none⟩ = some (.int .i64 a0_1) := (blk_cell BK145.out 1).trans rfl; have hcz35_2 : w34.cell? ⟨gb145, 2, none⟩ = some (.int .i64 a0_2) := (blk_cell BK145.out 2).trans rfl; have hcz35_3 : w34.cell? ⟨gb145, 3, none⟩ = some (.slice A0_3 l0_3.length c0_3) := (blk_cell BK145.out 3).trans rfl; have hcz35_4 : w34.cell? ⟨gb145, 4, none⟩ = some (.string a0_4) := (blk_cell BK145.out 4).trans rfl; have hcz35_5 : w34.cell? ⟨gb145, 5, none⟩ = some (.int .i64 a0_5) := (blk_cell BK145.out 5).trans rfl; have hfz35_0 := blk_frozen BK145.out 0; have hfz35_1 := blk_frozen BK145.out 1; have hfz35_2 := blk_frozen BK145.out 2; have hfz35_3 := blk_frozen BK145.out 3; have hfz35_4 := blk_frozen BK145.out 4; have hfz35_5 := blk_frozen BK145.out 5) | ((with_reducible refine gate_callee (f := 22) rfl ?_); refine goesL_ (some 6) rfl rfl Try.func22 (by kernel_rfl) rfl #[.int .i64 a0_1] rfl (by (try simp only [List.map_toArray, List.map_cons, List.map_nil]); first | done | rfl | (simp only [List.length_drop, List.length_take]; rfl)) ?_; (with_reducible refine (dolmenref9_Epoch.calls a0_1 t146 _ A2.out).mono ?_); rintro e w' ⟨rfl, ⟨nd, rfl⟩⟩; refine ⟨_, rfl, ?_⟩))
      (try simp only [Act.put, List.setIfInBounds_toArray, List.set_cons_zero, List.set_cons_succ])
      go_cut [50] (fun v50 wc => ∃ (kq : Nat) (x50_32 : Bool), v50 = .bool x50_32 ∧ Aside0 (dolmenref9_CheckEntry.j0 kq t146 a0_0 x50_32 a0_0 a0_1 a0_2 l0_3 a0_4 a0_5 = some r) ∧ Aside0 (kq ≤ k) ∧ Aside0 (wc.heap[gb145]? = some (.cells #[.int .i64 a0_0, .int .i64 a0_1, .int .i64 a0_2, (.slice A0_3 l0_3.length c0_3), .string a0_4, .int .i64 a0_5] 32 (0, 0))) ∧ Aside0 (Below w.heap.size w wc))
      case first =>
        have H := HC33.out
        clear HC33
        by_cases c36 : a0_0 = 3
        · rw [if_pos c36] at H
          have c36b0 : (a0_0 == 3) = true := beq_iff_eq.mpr c36
          have c36b1 : (a0_0 != 3) = false := bne_eq_false_iff_eq.mpr c36
          clear c36
          (first | rw [c36b0] | (simp only [i64_w, i32_w]; rw [c36b0]) | skip)
          have H' := Aside0.mk H
          clear H
          go_wp2
          go_meet
          case rel => exact ⟨_, ((a0_0 == 3)), (by first | rfl | (simp; done) | (simp [*]; done)), H', ⟨by first | omega | exact Nat.le_refl _⟩, ⟨by (with_reducible repeat (first | refine blk_drewN ?_ _ | refine blk_drew ?_ | refine blk_alloc ?_ _)); exact BK145.out⟩, ⟨by repeat (first | (with_reducible first | exact HB.out | apply below_alloc | apply pw_below_drewN | apply below_drew1 | refine below_set ?_ GE145.out) | exact HB.out)⟩⟩
        · rw [if_neg c36] at H
          have c36b0 : (a0_0 == 3) = false := beq_eq_false_iff_ne.mpr c36
          have c36b1 : (a0_0 != 3) = true := bne_iff_ne.mpr c36
          (first | rw [c36b0] | (simp only [i64_w, i32_w]; rw [c36b0]) | skip)
          have H' := Aside0.mk H
          clear H
          go_wp2
          go_meet
          case rel => exact ⟨_, ((a0_0 == 4)), (by first | rfl | (simp; done) | (simp [*]; done)), H', ⟨by first | omega | exact Nat.le_refl _⟩, ⟨by (with_reducible repeat (first | refine blk_drewN ?_ _ | refine blk_drew ?_ | refine blk_alloc ?_ _)); exact BK145.out⟩, ⟨by repeat (first | (with_reducible first | exact HB.out | apply below_alloc | apply pw_below_drewN | apply below_drew1 | refine below_set ?_ GE145.out) | exact HB.out)⟩⟩
      case rest =>
        clear HC33
        (try clear c1); (try clear c2); (try clear p2); (try clear c3); (try clear c3b0); (try clear c3b1); (try clear c4); (try clear c5); (try clear c5b0); (try clear c6); (try clear c6b0); (try clear p6); (try clear c7); (try clear c7b0); (try clear c7b1); (try clear c8); (try clear c8b0); (try clear c17); (try clear c21); (try clear c21b0); (try clear c21b1); (try clear c22); (try clear c23); (try clear c23b0); (try clear c24); (try clear c24b0); (try clear c36); (try clear c36b0); (try clear c36b1); (try clear hcz10_0); (try clear hcz10_1); (try clear hcz10_2); (try clear hcz10_3); (try clear hcz10_4); (try clear hcz10_5); (try clear hcz12_0); (try clear hcz12_1); (try clear hcz12_2); (try clear hcz12_3); (try clear hcz12_4); (try clear hcz12_5); (try clear hcz14_0); (try clear hcz14_1); (try clear hcz14_2); (try clear hcz14_3); (try clear hcz14_4); (try clear hcz14_5); (try clear hcz16_0); (try clear hcz16_1); (try clear hcz16_2); (try clear hcz16_3); (try clear hcz16_4); (try clear hcz16_5); (try clear hcz18_0); (try clear hcz18_1); (try clear hcz18_2); (try clear hcz18_3); (try clear hcz18_4); (try clear hcz18_5); (try clear hcz20_0); (try clear hcz20_1); (try clear hcz20_2); (try clear hcz20_3); (try clear hcz20_4); (try clear hcz20_5); (try clear hcz26_0); (try clear hcz26_1); (try clear hcz26_2); (try clear hcz26_3); (try clear hcz26_4); (try clear hcz26_5); (try clear hcz28_0); (try clear hcz28_1); (try clear hcz28_2); (try clear hcz28_3); (try clear hcz28_4); (try clear hcz28_5); (try clear hcz30_0); (try clear hcz30_1); (try clear hcz30_2); (try clear hcz30_3); (try clear hcz30_4); (try clear hcz30_5); (try clear hcz32_0); (try clear hcz32_1); (try clear hcz32_2); (try clear hcz32_3); (try clear hcz32_4); (try clear hcz32_5); (try clear hcz35_0); (try clear hcz35_1); (try clear hcz35_2); (try clear hcz35_3); (try clear hcz35_4); (try clear hcz35_5); (try clear hfz10_0); (try clear hfz10_1); (try clear hfz10_2); (try clear hfz10_3); (try clear hfz10_4); (try clear hfz10_5); (try clear hfz12_0); (try clear hfz12_1); (try clear hfz12_2); (try clear hfz12_3); (try clear hfz12_4); (try clear hfz12_5); (try clear hfz14_0); (try clear hfz14_1); (try clear hfz14_2); (try clear hfz14_3); (try clear hfz14_4); (try clear hfz14_5); (try clear hfz16_0); (try clear hfz16_1); (try clear hfz16_2); (try clear hfz16_3); (try clear hfz16_4); (try clear hfz16_5); (try clear hfz18_0); (try clear hfz18_1); (try clear hfz18_2); (try clear hfz18_3); (try clear hfz18_4); (try clear hfz18_5); (try clear hfz20_0); (try clear hfz20_1); (try clear hfz20_2); (try clear hfz20_3); (try clear hfz20_4); (try clear hfz20_5); (try clear hfz26_0); (try clear hfz26_1); (try clear hfz26_2); (try clear hfz26_3); (try clear hfz26_4); (try clear hfz26_5); (try clear hfz28_0); (try clear hfz28_1); (try clear hfz28_2); (try clear hfz28_3); (try clear hfz28_4); (try clear hfz28_5); (try clear hfz30_0); (try clear hfz30_1); (try clear hfz30_2); (try clear hfz30_3); (try clear hfz30_4); (try clear hfz30_5); (try clear hfz32_0); (try clear hfz32_1); (try clear hfz32_2); (try clear hfz32_3); (try clear hfz32_4); (try clear hfz32_5); (try clear hfz35_0); (try clear hfz35_1); (try clear hfz35_2); (try clear hfz35_3); (try clear hfz35_4); (try clear hfz35_5)
        obtain ⟨kq, x50_32, rfl, HA, HJ32, BK145, HB⟩ := hcut
        cases kq with
        | zero => exact absurd HA.out (by simp [dolmenref9_CheckEntry.j0])
        | succ kj32 =>
          have H := HA.out
          clear HA
          simp only [dolmenref9_CheckEntry.j0] at H
          by_cases c37 : x50_32 = true
          · subst c37
            have H1 : (if t146 = true then (if (a0_4.size : Int) > 0 then (if (a0_4.size : Int) ≤ 12 then (if a0_0 = 4 then (some 0) else (if a0_5 ≥ 1 then (if a0_5 ≤ 1073741824 then (some 0) else (some 1)) else (some 1))) else (some 1)) else (some 1)) else (some 1)) = some r := by rw [if_pos rfl] at H; exact H
            clear H
            have H := H1
            clear H1
            by_cases c38 : t146 = true
            · subst c38
              have H1 : (if (a0_4.size : Int) > 0 then (if (a0_4.size : Int) ≤ 12 then (if a0_0 = 4 then (some 0) else (if a0_5 ≥ 1 then (if a0_5 ≤ 1073741824 then (some 0) else (some 1)) else (some 1))) else (some 1)) else (some 1)) = some r := by rw [if_pos rfl] at H; exact H
              clear H
              have H := H1
              clear H1
              by_cases c39 : (a0_4.size : Int) > 0
              · rw [if_pos c39] at H
                have c39b0 : decide (0 < (a0_4.size : Int)) = true := decide_eq_true c39
                have c39b1 : decide (0 < a0_4.size) = true := decide_eq_true (by omega)
                clear c39
                by_cases c40 : (a0_4.size : Int) ≤ 12
                · rw [if_pos c40] at H
                  have c40b0 : decide ((a0_4.size : Int) ≤ 12) = true := decide_eq_true c40
                  have c40b1 : decide (a0_4.size ≤ 12) = true := decide_eq_true (by omega)
                  clear c40
                  by_cases c41 : a0_0 = 4
                  · rw [if_pos c41] at H
                    have c41b0 : (a0_0 == 4) = true := beq_iff_eq.mpr c41
                    have c41b1 : (a0_0 != 4) = false := bne_eq_false_iff_eq.mpr c41
                    clear c41
                    obtain rfl := Option.some.inj H
                    have hcz42_0 : wc.cell? ⟨gb145, 0, none⟩ = some (.int .i64 a0_0) := (blk_cell BK145.out 0).trans rfl
                    have hcz42_1 : wc.cell? ⟨gb145, 1, none⟩ = some (.int .i64 a0_1) := (blk_cell BK145.out 1).trans rfl
                    have hcz42_2 : wc.cell? ⟨gb145, 2, none⟩ = some (.int .i64 a0_2) := (blk_cell BK145.out 2).trans rfl
                    have hcz42_3 : wc.cell? ⟨gb145, 3, none⟩ = some (.slice A0_3 l0_3.length c0_3) := (blk_cell BK145.out 3).trans rfl
                    have hcz42_4 : wc.cell? ⟨gb145, 4, none⟩ = some (.string a0_4) := (blk_cell BK145.out 4).trans rfl
                    have hcz42_5 : wc.cell? ⟨gb145, 5, none⟩ = some (.int .i64 a0_5) := (blk_cell BK145.out 5).trans rfl
                    have hfz42_0 := blk_frozen BK145.out 0
                    have hfz42_1 := blk_frozen BK145.out 1
                    have hfz42_2 := blk_frozen BK145.out 2
                    have hfz42_3 := blk_frozen BK145.out 3
                    have hfz42_4 := blk_frozen BK145.out 4
                    have hfz42_5 := blk_frozen BK145.out 5
                    go_wp2
                    go_ret
                    exact ⟨by first | rfl | (simp [errW_none, errW_some] <;> rfl) | (simp [*, errW_none, errW_some] <;> rfl), by repeat (first | (with_reducible first | exact HB.out | apply below_alloc | apply pw_below_drewN | apply below_drew1 | refine below_set ?_ GE145.out) | exact HB.out)⟩
                  · rw [if_neg c41] at H
                    have c41b0 : (a0_0 == 4) = false := beq_eq_false_iff_ne.mpr c41
                    have c41b1 : (a0_0 != 4) = true := bne_iff_ne.mpr c41
                    by_cases c43 : a0_5 ≥ 1
                    · rw [if_pos c43] at H
                      have c43b0 : decide (1 ≤ a0_5) = true := decide_eq_true c43
                      clear c43
                      by_cases c44 : a0_5 ≤ 1073741824
                      · rw [if_pos c44] at H
                        have c44b0 : decide (a0_5 ≤ 1073741824) = true := decide_eq_true c44
                        clear c44
                        obtain rfl := Option.some.inj H
                        have hcz45_0 : wc.cell? ⟨gb145, 0, none⟩ = some (.int .i64 a0_0) := (blk_cell BK145.out 0).trans rfl
                        have hcz45_1 : wc.cell? ⟨gb145, 1, none⟩ = some (.int .i64 a0_1) := (blk_cell BK145.out 1).trans rfl
                        have hcz45_2 : wc.cell? ⟨gb145, 2, none⟩ = some (.int .i64 a0_2) := (blk_cell BK145.out 2).trans rfl
                        have hcz45_3 : wc.cell? ⟨gb145, 3, none⟩ = some (.slice A0_3 l0_3.length c0_3) := (blk_cell BK145.out 3).trans rfl
                        have hcz45_4 : wc.cell? ⟨gb145, 4, none⟩ = some (.string a0_4) := (blk_cell BK145.out 4).trans rfl
                        have hcz45_5 : wc.cell? ⟨gb145, 5, none⟩ = some (.int .i64 a0_5) := (blk_cell BK145.out 5).trans rfl
                        have hfz45_0 := blk_frozen BK145.out 0
                        have hfz45_1 := blk_frozen BK145.out 1
                        have hfz45_2 := blk_frozen BK145.out 2
                        have hfz45_3 := blk_frozen BK145.out 3
                        have hfz45_4 := blk_frozen BK145.out 4
                        have hfz45_5 := blk_frozen BK145.out 5
                        go_wp2
                        go_ret
                        exact ⟨by first | rfl | (simp [errW_none, errW_some] <;> rfl) | (simp [*, errW_none, errW_some] <;> rfl), by repeat (first | (with_reducible first | exact HB.out | apply below_alloc | apply pw_below_drewN | apply below_drew1 | refine below_set ?_ GE145.out) | exact HB.out)⟩
                      · rw [if_neg c44] at H
                        have c44b0 : decide (a0_5 ≤ 1073741824) = false := decide_eq_false c44
                        clear c44
                        obtain rfl := Option.some.inj H
                        have hcz46_0 : wc.cell? ⟨gb145, 0, none⟩ = some (.int .i64 a0_0) := (blk_cell BK145.out 0).trans rfl
                        have hcz46_1 : wc.cell? ⟨gb145, 1, none⟩ = some (.int .i64 a0_1) := (blk_cell BK145.out 1).trans rfl
                        have hcz46_2 : wc.cell? ⟨gb145, 2, none⟩ = some (.int .i64 a0_2) := (blk_cell BK145.out 2).trans rfl
                        have hcz46_3 : wc.cell? ⟨gb145, 3, none⟩ = some (.slice A0_3 l0_3.length c0_3) := (blk_cell BK145.out 3).trans rfl
                        have hcz46_4 : wc.cell? ⟨gb145, 4, none⟩ = some (.string a0_4) := (blk_cell BK145.out 4).trans rfl
                        have hcz46_5 : wc.cell? ⟨gb145, 5, none⟩ = some (.int .i64 a0_5) := (blk_cell BK145.out 5).trans rfl
                        have hfz46_0 := blk_frozen BK145.out 0
                        have hfz46_1 := blk_frozen BK145.out 1
                        have hfz46_2 := blk_frozen BK145.out 2
                        have hfz46_3 := blk_frozen BK145.out 3
                        have hfz46_4 := blk_frozen BK145.out 4
                        have hfz46_5 := blk_frozen BK145.out 5
                        go_wp2
                        go_ret
                        exact ⟨by first | rfl | (simp [errW_none, errW_some] <;> rfl) | (simp [*, errW_none, errW_some] <;> rfl), by repeat (first | (with_reducible first | exact HB.out | apply below_alloc | apply pw_below_drewN | apply below_drew1 | refine below_set ?_ GE145.out) | exact HB.out)⟩
                    · rw [if_neg c43] at H
                      have c43b0 : decide (1 ≤ a0_5) = false := decide_eq_false c43
                      clear c43
                      obtain rfl := Option.some.inj H
                      have hcz47_0 : wc.cell? ⟨gb145, 0, none⟩ = some (.int .i64 a0_0) := (blk_cell BK145.out 0).trans rfl
                      have hcz47_1 : wc.cell? ⟨gb145, 1, none⟩ = some (.int .i64 a0_1) := (blk_cell BK145.out 1).trans rfl
                      have hcz47_2 : wc.cell? ⟨gb145, 2, none⟩ = some (.int .i64 a0_2) := (blk_cell BK145.out 2).trans rfl
                      have hcz47_3 : wc.cell? ⟨gb145, 3, none⟩ = some (.slice A0_3 l0_3.length c0_3) := (blk_cell BK145.out 3).trans rfl
                      have hcz47_4 : wc.cell? ⟨gb145, 4, none⟩ = some (.string a0_4) := (blk_cell BK145.out 4).trans rfl
                      have hcz47_5 : wc.cell? ⟨gb145, 5, none⟩ = some (.int .i64 a0_5) := (blk_cell BK145.out 5).trans rfl
                      have hfz47_0 := blk_frozen BK145.out 0
                      have hfz47_1 := blk_frozen BK145.out 1
                      have hfz47_2 := blk_frozen BK145.out 2
                      have hfz47_3 := blk_frozen BK145.out 3
                      have hfz47_4 := blk_frozen BK145.out 4
                      have hfz47_5 := blk_frozen BK145.out 5
                      go_wp2
                      go_ret
                      exact ⟨by first | rfl | (simp [errW_none, errW_some] <;> rfl) | (simp [*, errW_none, errW_some] <;> rfl), by repeat (first | (with_reducible first | exact HB.out | apply below_alloc | apply pw_below_drewN | apply below_drew1 | refine below_set ?_ GE145.out) | exact HB.out)⟩
                · rw [if_neg c40] at H
                  have c40b0 : decide ((a0_4.size : Int) ≤ 12) = false := decide_eq_false c40
                  have c40b1 : decide (a0_4.size ≤ 12) = false := decide_eq_false (by omega)
                  clear c40
                  obtain rfl := Option.some.inj H
                  have hcz48_0 : wc.cell? ⟨gb145, 0, none⟩ = some (.int .i64 a0_0) := (blk_cell BK145.out 0).trans rfl
                  have hcz48_1 : wc.cell? ⟨gb145, 1, none⟩ = some (.int .i64 a0_1) := (blk_cell BK145.out 1).trans rfl
                  have hcz48_2 : wc.cell? ⟨gb145, 2, none⟩ = some (.int .i64 a0_2) := (blk_cell BK145.out 2).trans rfl
                  have hcz48_3 : wc.cell? ⟨gb145, 3, none⟩ = some (.slice A0_3 l0_3.length c0_3) := (blk_cell BK145.out 3).trans rfl
                  have hcz48_4 : wc.cell? ⟨gb145, 4, none⟩ = some (.string a0_4) := (blk_cell BK145.out 4).trans rfl
                  have hcz48_5 : wc.cell? ⟨gb145, 5, none⟩ = some (.int .i64 a0_5) := (blk_cell BK145.out 5).trans rfl
                  have hfz48_0 := blk_frozen BK145.out 0
                  have hfz48_1 := blk_frozen BK145.out 1
                  have hfz48_2 := blk_frozen BK145.out 2
                  have hfz48_3 := blk_frozen BK145.out 3
                  have hfz48_4 := blk_frozen BK145.out 4
                  have hfz48_5 := blk_frozen BK145.out 5
                  go_wp2
                  go_ret
                  exact ⟨by first | rfl | (simp [errW_none, errW_some] <;> rfl) | (simp [*, errW_none, errW_some] <;> rfl), by repeat (first | (with_reducible first | exact HB.out | apply below_alloc | apply pw_below_drewN | apply below_drew1 | refine below_set ?_ GE145.out) | exact HB.out)⟩
              · rw [if_neg c39] at H
                have c39b0 : decide (0 < (a0_4.size : Int)) = false := decide_eq_false c39
                have c39b1 : decide (0 < a0_4.size) = false := decide_eq_false (by omega)
                clear c39
                obtain rfl := Option.some.inj H
                have hcz49_0 : wc.cell? ⟨gb145, 0, none⟩ = some (.int .i64 a0_0) := (blk_cell BK145.out 0).trans rfl
                have hcz49_1 : wc.cell? ⟨gb145, 1, none⟩ = some (.int .i64 a0_1) := (blk_cell BK145.out 1).trans rfl
                have hcz49_2 : wc.cell? ⟨gb145, 2, none⟩ = some (.int .i64 a0_2) := (blk_cell BK145.out 2).trans rfl
                have hcz49_3 : wc.cell? ⟨gb145, 3, none⟩ = some (.slice A0_3 l0_3.length c0_3) := (blk_cell BK145.out 3).trans rfl
                have hcz49_4 : wc.cell? ⟨gb145, 4, none⟩ = some (.string a0_4) := (blk_cell BK145.out 4).trans rfl
                have hcz49_5 : wc.cell? ⟨gb145, 5, none⟩ = some (.int .i64 a0_5) := (blk_cell BK145.out 5).trans rfl
                have hfz49_0 := blk_frozen BK145.out 0
                have hfz49_1 := blk_frozen BK145.out 1
                have hfz49_2 := blk_frozen BK145.out 2
                have hfz49_3 := blk_frozen BK145.out 3
                have hfz49_4 := blk_frozen BK145.out 4
                have hfz49_5 := blk_frozen BK145.out 5
                go_wp2
                go_ret
                exact ⟨by first | rfl | (simp [errW_none, errW_some] <;> rfl) | (simp [*, errW_none, errW_some] <;> rfl), by repeat (first | (with_reducible first | exact HB.out | apply below_alloc | apply pw_below_drewN | apply below_drew1 | refine below_set ?_ GE145.out) | exact HB.out)⟩
            · replace c38 := Bool.eq_false_iff.mpr c38
              subst c38
              have H1 : (some 1) = some r := by rw [if_neg (show ¬ (false = true) by decide)] at H; exact H
              clear H
              have H := H1
              clear H1
              obtain rfl := Option.some.inj H
              go_wp2
              go_ret
              exact ⟨by first | rfl | (simp [errW_none, errW_some] <;> rfl) | (simp [*, errW_none, errW_some] <;> rfl), by repeat (first | (with_reducible first | exact HB.out | apply below_alloc | apply pw_below_drewN | apply below_drew1 | refine below_set ?_ GE145.out) | exact HB.out)⟩
          · replace c37 := Bool.eq_false_iff.mpr c37
            subst c37
            have H1 : (if a0_0 = 5 then (if t146 = true then (if a0_5 ≥ 1 then (if a0_5 ≤ 1073741824 then (some 0) else (some 1)) else (some 1)) else (some 1)) else (some 1)) = some r := by rw [if_neg (show ¬ (false = true) by decide)] at H; exact H
            clear H
            have H := H1
            clear H1
            by_cases c50 : a0_0 = 5
            · rw [if_pos c50] at H
              have c50b0 : (a0_0 == 5) = true := beq_iff_eq.mpr c50
              have c50b1 : (a0_0 != 5) = false := bne_eq_false_iff_eq.mpr c50
              clear c50
              by_cases c51 : t146 = true
              · subst c51
                have H1 : (if a0_5 ≥ 1 then (if a0_5 ≤ 1073741824 then (some 0) else (some 1)) else (some 1)) = some r := by rw [if_pos rfl] at H; exact H
                clear H
                have H := H1
                clear H1
                by_cases c52 : a0_5 ≥ 1
                · rw [if_pos c52] at H
                  have c52b0 : decide (1 ≤ a0_5) = true := decide_eq_true c52
                  clear c52
                  by_cases c53 : a0_5 ≤ 1073741824
                  · rw [if_pos c53] at H
                    have c53b0 : decide (a0_5 ≤ 1073741824) = true := decide_eq_true c53
                    clear c53
                    obtain rfl := Option.some.inj H
                    have hcz54_0 : wc.cell? ⟨gb145, 0, none⟩ = some (.int .i64 a0_0) := (blk_cell BK145.out 0).trans rfl
                    have hcz54_1 : wc.cell? ⟨gb145, 1, none⟩ = some (.int .i64 a0_1) := (blk_cell BK145.out 1).trans rfl
                    have hcz54_2 : wc.cell? ⟨gb145, 2, none⟩ = some (.int .i64 a0_2) := (blk_cell BK145.out 2).trans rfl
                    have hcz54_3 : wc.cell? ⟨gb145, 3, none⟩ = some (.slice A0_3 l0_3.length c0_3) := (blk_cell BK145.out 3).trans rfl
                    have hcz54_4 : wc.cell? ⟨gb145, 4, none⟩ = some (.string a0_4) := (blk_cell BK145.out 4).trans rfl
                    have hcz54_5 : wc.cell? ⟨gb145, 5, none⟩ = some (.int .i64 a0_5) := (blk_cell BK145.out 5).trans rfl
                    have hfz54_0 := blk_frozen BK145.out 0
                    have hfz54_1 := blk_frozen BK145.out 1
                    have hfz54_2 := blk_frozen BK145.out 2
                    have hfz54_3 := blk_frozen BK145.out 3
                    have hfz54_4 := blk_frozen BK145.out 4
                    have hfz54_5 := blk_frozen BK145.out 5
                    go_wp2
                    go_ret
                    exact ⟨by first | rfl | (simp [errW_none, errW_some] <;> rfl) | (simp [*, errW_none, errW_some] <;> rfl), by repeat (first | (with_reducible first | exact HB.out | apply below_alloc | apply pw_below_drewN | apply below_drew1 | refine below_set ?_ GE145.out) | exact HB.out)⟩
                  · rw [if_neg c53] at H
                    have c53b0 : decide (a0_5 ≤ 1073741824) = false := decide_eq_false c53
                    clear c53
                    obtain rfl := Option.some.inj H
                    have hcz55_0 : wc.cell? ⟨gb145, 0, none⟩ = some (.int .i64 a0_0) := (blk_cell BK145.out 0).trans rfl
                    have hcz55_1 : wc.cell? ⟨gb145, 1, none⟩ = some (.int .i64 a0_1) := (blk_cell BK145.out 1).trans rfl
                    have hcz55_2 : wc.cell? ⟨gb145, 2, none⟩ = some (.int .i64 a0_2) := (blk_cell BK145.out 2).trans rfl
                    have hcz55_3 : wc.cell? ⟨gb145, 3, none⟩ = some (.slice A0_3 l0_3.length c0_3) := (blk_cell BK145.out 3).trans rfl
                    have hcz55_4 : wc.cell? ⟨gb145, 4, none⟩ = some (.string a0_4) := (blk_cell BK145.out 4).trans rfl
                    have hcz55_5 : wc.cell? ⟨gb145, 5, none⟩ = some (.int .i64 a0_5) := (blk_cell BK145.out 5).trans rfl
                    have hfz55_0 := blk_frozen BK145.out 0
                    have hfz55_1 := blk_frozen BK145.out 1
                    have hfz55_2 := blk_frozen BK145.out 2
                    have hfz55_3 := blk_frozen BK145.out 3
                    have hfz55_4 := blk_frozen BK145.out 4
                    have hfz55_5 := blk_frozen BK145.out 5
                    go_wp2
                    go_ret
                    exact ⟨by first | rfl | (simp [errW_none, errW_some] <;> rfl) | (simp [*, errW_none, errW_some] <;> rfl), by repeat (first | (with_reducible first | exact HB.out | apply below_alloc | apply pw_below_drewN | apply below_drew1 | refine below_set ?_ GE145.out) | exact HB.out)⟩
                · rw [if_neg c52] at H
                  have c52b0 : decide (1 ≤ a0_5) = false := decide_eq_false c52
                  clear c52
                  obtain rfl := Option.some.inj H
                  have hcz56_0 : wc.cell? ⟨gb145, 0, none⟩ = some (.int .i64 a0_0) := (blk_cell BK145.out 0).trans rfl
                  have hcz56_1 : wc.cell? ⟨gb145, 1, none⟩ = some (.int .i64 a0_1) := (blk_cell BK145.out 1).trans rfl
                  have hcz56_2 : wc.cell? ⟨gb145, 2, none⟩ = some (.int .i64 a0_2) := (blk_cell BK145.out 2).trans rfl
                  have hcz56_3 : wc.cell? ⟨gb145, 3, none⟩ = some (.slice A0_3 l0_3.length c0_3) := (blk_cell BK145.out 3).trans rfl
                  have hcz56_4 : wc.cell? ⟨gb145, 4, none⟩ = some (.string a0_4) := (blk_cell BK145.out 4).trans rfl
                  have hcz56_5 : wc.cell? ⟨gb145, 5, none⟩ = some (.int .i64 a0_5) := (blk_cell BK145.out 5).trans rfl
                  have hfz56_0 := blk_frozen BK145.out 0
                  have hfz56_1 := blk_frozen BK145.out 1
                  have hfz56_2 := blk_frozen BK145.out 2
                  have hfz56_3 := blk_frozen BK145.out 3
                  have hfz56_4 := blk_frozen BK145.out 4
                  have hfz56_5 := blk_frozen BK145.out 5
                  go_wp2
                  go_ret
                  exact ⟨by first | rfl | (simp [errW_none, errW_some] <;> rfl) | (simp [*, errW_none, errW_some] <;> rfl), by repeat (first | (with_reducible first | exact HB.out | apply below_alloc | apply pw_below_drewN | apply below_drew1 | refine below_set ?_ GE145.out) | exact HB.out)⟩
              · replace c51 := Bool.eq_false_iff.mpr c51
                subst c51
                have H1 : (some 1) = some r := by rw [if_neg (show ¬ (false = true) by decide)] at H; exact H
                clear H
                have H := H1
                clear H1
                obtain rfl := Option.some.inj H
                go_wp2
                go_ret
                exact ⟨by first | rfl | (simp [errW_none, errW_some] <;> rfl) | (simp [*, errW_none, errW_some] <;> rfl), by repeat (first | (with_reducible first | exact HB.out | apply below_alloc | apply pw_below_drewN | apply below_drew1 | refine below_set ?_ GE145.out) | exact HB.out)⟩
            · rw [if_neg c50] at H
              have c50b0 : (a0_0 == 5) = false := beq_eq_false_iff_ne.mpr c50
              have c50b1 : (a0_0 != 5) = true := bne_iff_ne.mpr c50
              obtain rfl := Option.some.inj H
              go_wp2
              go_ret
              exact ⟨by first | rfl | (simp [errW_none, errW_some] <;> rfl) | (simp [*, errW_none, errW_some] <;> rfl), by repeat (first | (with_reducible first | exact HB.out | apply below_alloc | apply pw_below_drewN | apply below_drew1 | refine below_set ?_ GE145.out) | exact HB.out)⟩

end Go.Proofs.Ytacdocchcfbgcaa.Q
