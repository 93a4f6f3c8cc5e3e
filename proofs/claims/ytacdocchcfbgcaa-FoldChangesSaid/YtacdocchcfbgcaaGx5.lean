-- printed by wip/mp.py (the kit's print, with given functions); Lean checks it
import Derived.Test.YtacdocchcfbgcaaGx0
import Derived.Test.YtacdocchcfbgcaaGx2
import Derived.Test.YtacdocchcfbgcaaGx3
namespace Go.Proofs.Ytacdocchcfbgcaa.Q
open Go.RowKit Go.Proofs.YtacdocchcfbgcaaW.PrintWords Go.Proofs.YtacdocchcfbgcaaW.PrintLast Go.Proofs.YtacdocchcfbgcaaW.PrintMore
attribute [local go_sem] max2_int min2_int max_two min_two max_three min_three max_four min_four   -- for this text's walks alone
set_option linter.unusedVariables false
set_option linter.unusedSimpArgs false

/-! ### fold_Change: function 18 -/
mutual
def fold_Change.j0 : Nat → List Int → List Int → Int → List (S50) → Option ((List (S50)))
  | 0, _, _, _, _ => none
  | k + 1, x0, x1, x2, x6 => (fold_sized.f x0 (x1.length : Int)).bind fun t130 => (fold_Change.l0 k t130 x1 x2 x6 0 (x1.length : Int))
def fold_Change.j2 : Nat → List Int → List Int → Int → List (S50) → Int → Int → Option ((List (S50)))
  | 0, _, _, _, _, _, _ => none
  | k + 1, x0, x1, x2, x6, x8, x9 => fold_Change.l1 k x0 x1 x2 x6 x8 x9
def fold_Change.l1 : Nat → List Int → List Int → Int → List (S50) → Int → Int → Option ((List (S50)))
  | 0, _, _, _, _, _, _ => none
  | k + 1, x0, x1, x2, x6, x8, x9 => if x8 < x9 then (if 0 ≤ (wrap64 (x9 - 1)) then (if (wrap64 (x9 - 1)) < (x0.length : Int) then (if (wrap64 (x9 - 1)) < (x1.length : Int) then (if (rd x0 (wrap64 (x9 - 1))) = (rd x1 (wrap64 (x9 - 1))) then (fold_Change.l1 k x0 x1 x2 x6 x8 (wrap64 (x9 - 1))) else (if 0 ≤ x8 then (if x8 ≤ x9 then (if x9 ≤ (x1.length : Int) then ((slices_Clone_byte_byte.f ((x1.take (x9 : Int).toNat).drop (x8 : Int).toNat)).bind fun t138 => (if x6.length < 1954687338268 then (some (x6 ++ [(⟨1, x2, x8, t138, (⟨#[]⟩ : ByteArray), 0⟩ : S50)])) else (none))) else (none)) else (none)) else (none))) else (none)) else (none)) else (none)) else (some x6)
def fold_Change.l0 : Nat → List Int → List Int → Int → List (S50) → Int → Int → Option ((List (S50)))
  | 0, _, _, _, _, _, _ => none
  | k + 1, x0, x1, x2, x6, x8, x9 => if x8 < x9 then (if 0 ≤ x8 then (if x8 < (x0.length : Int) then (if x8 < (x1.length : Int) then (if (rd x0 x8) = (rd x1 x8) then (fold_Change.l0 k x0 x1 x2 x6 (wrap64 (x8 + 1)) x9) else (fold_Change.j2 k x0 x1 x2 x6 x8 x9)) else (none)) else (none)) else (none)) else (fold_Change.j2 k x0 x1 x2 x6 x8 x9)
end
def fold_Change.f (k : Nat) (l0 : List Int) (l1 : List Int) (a2 : Int) : Option ((List (S50))) := (entry_Check.f k 2 a2 (l1.length : Int) ([] : List Int) (⟨#[]⟩ : ByteArray) 0).bind fun t125 => (if t125.isNone = true then (if (l0.length : Int) = (l1.length : Int) then (fold_Change.j0 k l0 l1 a2 ([] : List (S50))) else (if ([] : List (S50)).length < 1954687338268 then (fold_Change.j0 k l0 l1 a2 (([] : List (S50)) ++ [(⟨2, a2, (l1.length : Int), ([] : List Int), (⟨#[]⟩ : ByteArray), 0⟩ : S50)])) else (none))) else (some ([] : List (S50))))
theorem fold_Change.mono_l : ∀ k, (∀ y0 y1 y2 y3, LeO (fold_Change.j0 k y0 y1 y2 y3) (fold_Change.j0 (k + 1) y0 y1 y2 y3)) ∧ (∀ y0 y1 y2 y3 y4 y5, LeO (fold_Change.j2 k y0 y1 y2 y3 y4 y5) (fold_Change.j2 (k + 1) y0 y1 y2 y3 y4 y5)) ∧ (∀ y0 y1 y2 y3 y4 y5, LeO (fold_Change.l1 k y0 y1 y2 y3 y4 y5) (fold_Change.l1 (k + 1) y0 y1 y2 y3 y4 y5)) ∧ (∀ y0 y1 y2 y3 y4 y5, LeO (fold_Change.l0 k y0 y1 y2 y3 y4 y5) (fold_Change.l0 (k + 1) y0 y1 y2 y3 y4 y5))
  | 0 => ⟨fun _ _ _ _ r h => by simp [fold_Change.j0] at h, fun _ _ _ _ _ _ r h => by simp [fold_Change.j2] at h, fun _ _ _ _ _ _ r h => by simp [fold_Change.l1] at h, fun _ _ _ _ _ _ r h => by simp [fold_Change.l0] at h⟩
  | k + 1 => by
    obtain ⟨ih0, ih1, ih2, ih3⟩ := fold_Change.mono_l k
    refine ⟨?_, ?_, ?_, ?_⟩
    · intro y0 y1 y2 y3
      unfold fold_Change.j0
      repeat' first
      | (with_reducible exact ih0 _ _ _ _)
      | (with_reducible exact ih1 _ _ _ _ _ _)
      | (with_reducible exact ih2 _ _ _ _ _ _)
      | (with_reducible exact ih3 _ _ _ _ _ _)
      | (with_reducible exact entry_Check.mono _ _ _ _ _ _ _)
      | (with_reducible exact LeO.refl _)
      | (with_reducible exact LeO.none _)
      | (with_reducible refine LeO.ite ?_ ?_)
      | (with_reducible refine LeO.bind ?_ (fun _ => ?_))
      | exact ih0 _ _ _ _
      | exact ih1 _ _ _ _ _ _
      | exact ih2 _ _ _ _ _ _
      | exact ih3 _ _ _ _ _ _
      | exact entry_Check.mono _ _ _ _ _ _ _
      | exact LeO.none _
      | refine LeO.ite ?_ ?_
      | refine LeO.bind ?_ (fun _ => ?_)
    · intro y0 y1 y2 y3 y4 y5
      unfold fold_Change.j2
      repeat' first
      | (with_reducible exact ih0 _ _ _ _)
      | (with_reducible exact ih1 _ _ _ _ _ _)
      | (with_reducible exact ih2 _ _ _ _ _ _)
      | (with_reducible exact ih3 _ _ _ _ _ _)
      | (with_reducible exact entry_Check.mono _ _ _ _ _ _ _)
      | (with_reducible exact LeO.refl _)
      | (with_reducible exact LeO.none _)
      | (with_reducible refine LeO.ite ?_ ?_)
      | (with_reducible refine LeO.bind ?_ (fun _ => ?_))
      | exact ih0 _ _ _ _
      | exact ih1 _ _ _ _ _ _
      | exact ih2 _ _ _ _ _ _
      | exact ih3 _ _ _ _ _ _
      | exact entry_Check.mono _ _ _ _ _ _ _
      | exact LeO.none _
      | refine LeO.ite ?_ ?_
      | refine LeO.bind ?_ (fun _ => ?_)
    · intro y0 y1 y2 y3 y4 y5
      unfold fold_Change.l1
      repeat' first
      | (with_reducible exact ih0 _ _ _ _)
      | (with_reducible exact ih1 _ _ _ _ _ _)
      | (with_reducible exact ih2 _ _ _ _ _ _)
      | (with_reducible exact ih3 _ _ _ _ _ _)
      | (with_reducible exact entry_Check.mono _ _ _ _ _ _ _)
      | (with_reducible exact LeO.refl _)
      | (with_reducible exact LeO.none _)
      | (with_reducible refine LeO.ite ?_ ?_)
      | (with_reducible refine LeO.bind ?_ (fun _ => ?_))
      | exact ih0 _ _ _ _
      | exact ih1 _ _ _ _ _ _
      | exact ih2 _ _ _ _ _ _
      | exact ih3 _ _ _ _ _ _
      | exact entry_Check.mono _ _ _ _ _ _ _
      | exact LeO.none _
      | refine LeO.ite ?_ ?_
      | refine LeO.bind ?_ (fun _ => ?_)
    · intro y0 y1 y2 y3 y4 y5
      unfold fold_Change.l0
      repeat' first
      | (with_reducible exact ih0 _ _ _ _)
      | (with_reducible exact ih1 _ _ _ _ _ _)
      | (with_reducible exact ih2 _ _ _ _ _ _)
      | (with_reducible exact ih3 _ _ _ _ _ _)
      | (with_reducible exact entry_Check.mono _ _ _ _ _ _ _)
      | (with_reducible exact LeO.refl _)
      | (with_reducible exact LeO.none _)
      | (with_reducible refine LeO.ite ?_ ?_)
      | (with_reducible refine LeO.bind ?_ (fun _ => ?_))
      | exact ih0 _ _ _ _
      | exact ih1 _ _ _ _ _ _
      | exact ih2 _ _ _ _ _ _
      | exact ih3 _ _ _ _ _ _
      | exact entry_Check.mono _ _ _ _ _ _ _
      | exact LeO.none _
      | refine LeO.ite ?_ ?_
      | refine LeO.bind ?_ (fun _ => ?_)
theorem fold_Change.mono : ∀ a0 a1 a2 k, LeO (fold_Change.f k a0 a1 a2) (fold_Change.f (k + 1) a0 a1 a2) := by
  intro a0 a1 a2 k
  obtain ⟨ih0, ih1, ih2, ih3⟩ := fold_Change.mono_l k
  unfold fold_Change.f
  repeat' first
      | (with_reducible exact ih0 _ _ _ _)
      | (with_reducible exact ih1 _ _ _ _ _ _)
      | (with_reducible exact ih2 _ _ _ _ _ _)
      | (with_reducible exact ih3 _ _ _ _ _ _)
      | (with_reducible exact entry_Check.mono _ _ _ _ _ _ _)
      | (with_reducible exact LeO.refl _)
      | (with_reducible exact LeO.none _)
      | (with_reducible refine LeO.ite ?_ ?_)
      | (with_reducible refine LeO.bind ?_ (fun _ => ?_))
      | exact ih0 _ _ _ _
      | exact ih1 _ _ _ _ _ _
      | exact ih2 _ _ _ _ _ _
      | exact ih3 _ _ _ _ _ _
      | exact entry_Check.mono _ _ _ _ _ _ _
      | exact LeO.none _
      | refine LeO.ite ?_ ?_
      | refine LeO.bind ?_ (fun _ => ?_)
set_option maxHeartbeats 8000000 in
set_option maxRecDepth 100000 in
theorem fold_Change.calls (k : Nat) (A0 : Option Addr) (c0 : Nat) (l0 : List Int) (A1 : Option Addr) (c1 : Nat) (l1 : List Int) (a2 : Int) (r : List (S50)) (w : World) (hr0 : Kd.C (Kd.int .u8) w A0 l0.length l0) (hc0 : l0.length ≤ c0) (hr1 : Kd.C (Kd.int .u8) w A1 l1.length l1) (hc1 : l1.length ≤ c1) (h : fold_Change.f k l0 l1 a2 = some r) :
    Calls Try.prog 18 #[.slice A0 l0.length c0, .slice A1 l1.length c1, .int .i64 a2] w fun e w' => ∃ v0_ : Value, e = .returned (v0_) ∧ Kd.S k50 50 w' w.heap.size (fun _ => True) v0_ r ∧ Below w.heap.size w w' := by
  have hu50 := Try.underlying50
  have hu44 := Try.underlying44
  have hu90 := Try.underlying90
  have HR0 := Aside0.mk hr0
  have HC0 := Aside0.mk hc0
  clear hr0 hc0
  have HR1 := Aside0.mk hr1
  have HC1 := Aside0.mk hc1
  clear hr1 hc1
  have HB := Aside0.mk (Below.refl w.heap.size w)
  have H : ((entry_Check.f k 2 a2 (l1.length : Int) ([] : List Int) (⟨#[]⟩ : ByteArray) 0).bind fun t125 => (if t125.isNone = true then (if (l0.length : Int) = (l1.length : Int) then (fold_Change.j0 k l0 l1 a2 ([] : List (S50))) else (if ([] : List (S50)).length < 1954687338268 then (fold_Change.j0 k l0 l1 a2 (([] : List (S50)) ++ [(⟨2, a2, (l1.length : Int), ([] : List Int), (⟨#[]⟩ : ByteArray), 0⟩ : S50)])) else (none))) else (some ([] : List (S50))))) = some r := h
  clear h
  replace H := Option.bind_eq_some_iff.mp H
  obtain ⟨t125, A40, H⟩ := H
  replace H : (if t125.isNone = true then (if (l0.length : Int) = (l1.length : Int) then (fold_Change.j0 k l0 l1 a2 ([] : List (S50))) else (if ([] : List (S50)).length < 1954687338268 then (fold_Change.j0 k l0 l1 a2 (([] : List (S50)) ++ [(⟨2, a2, (l1.length : Int), ([] : List Int), (⟨#[]⟩ : ByteArray), 0⟩ : S50)])) else (none))) else (some ([] : List (S50)))) = some r := H
  have A4 := Aside0.mk A40
  clear A40
  rcases t125 with _ | q126
  · have H1 : (if (l0.length : Int) = (l1.length : Int) then (fold_Change.j0 k l0 l1 a2 ([] : List (S50))) else (if ([] : List (S50)).length < 1954687338268 then (fold_Change.j0 k l0 l1 a2 (([] : List (S50)) ++ [(⟨2, a2, (l1.length : Int), ([] : List Int), (⟨#[]⟩ : ByteArray), 0⟩ : S50)])) else (none))) = some r := by rw [if_pos (show (none : Option Int).isNone = true by rfl)] at H; exact H
    clear H
    have H := H1
    clear H1
    try simp only [errW_none, errW_some]
    have HC5 := Aside0.mk H
    clear H
    go_enter Try.func18, Try.ntmps18
    go_upto_if 21 with (first | ((with_reducible refine gate_dst (N := 7) rfl ?_); refine box_event ?hg (N := 7) ?hd (cs := #[.int .i64 0, .int .i64 0, .int .i64 0, .slice none 0 0, .string (⟨#[]⟩ : ByteArray), .int .i64 0]) (t := 50) ?hr ?_; (case hd => rfl); (case hg => rfl); (case hr => first | (go_simp; done) | (go_simp; rfl)); intro gb124 hg w6 hbox hb; have n0_ := Aside0.mk (below_step (by repeat (first | (with_reducible first | exact HB.out | apply below_alloc | apply pw_below_drewN | apply below_drew1) | exact HB.out)) hb); have n1_ := Aside0.mk (hbox); have n2_ := Aside0.mk ((by rw [hg]; exact (below_size (by repeat (first | (with_reducible first | exact HB.out | apply below_alloc | apply pw_below_drewN | apply below_drew1) | exact HB.out))) : w.heap.size ≤ gb124)); have n3_ := Aside0.mk ((by rw [hg]; exact (below_size (by repeat (first | (with_reducible first | exact HB.out | apply below_alloc | apply pw_below_drewN | apply below_drew1) | exact HB.out))) : w.heap.size ≤ gb124)); clear HB; have HB := n0_; have BK124 := n1_; have GW124 := n2_; have GE124 := n3_; clear n0_ n1_ n2_ n3_; clear hb hbox hg; have hcz7_0 : w6.cell? ⟨gb124, 0, none⟩ = some (.int .i64 0) := (blk_cell BK124.out 0).trans rfl; have hcz7_1 : w6.cell? ⟨gb124, 1, none⟩ = some (.int .i64 0) := (blk_cell BK124.out 1).trans rfl; have hcz7_2 : w6.cell? ⟨gb124, 2, none⟩ = some (.int .i64 0) := (blk_cell BK124.out 2).trans rfl; have hcz7_3 : w6.cell? ⟨gb124, 3, none⟩ = some (.slice none 0 0) := (blk_cell BK124.out 3).trans rfl; have hcz7_4 : w6.cell? ⟨gb124, 4, none⟩ = some (.string (⟨#[]⟩ : ByteArray)) := (blk_cell BK124.out 4).trans rfl; have hcz7_5 : w6.cell? ⟨gb124, 5, none⟩ = some (.int .i64 0) := (blk_cell BK124.out 5).trans rfl; have hfz7_0 := blk_frozen BK124.out 0; have hfz7_1 := blk_frozen BK124.out 1; have hfz7_2 := blk_frozen BK124.out 2; have hfz7_3 := blk_frozen BK124.out 3; have hfz7_4 := blk_frozen BK124.out 4; have hfz7_5 := blk_frozen BK124.out 5) | (go_at_call 46; (refine (entry_Check.calls k 2 a2 (l1.length : Int) _ _ ([] : List Int) (⟨#[]⟩ : ByteArray) 0 none _ ?side1 ?side2 A4.out).mono ?_); (case side1 => exact Kd.C_nil _ _); (case side2 => exact Nat.le_refl _); rintro e w8 ⟨rfl, hb⟩; have n0_ := Aside0.mk (blk_below (g := gb124) (o := .cells #[.int .i64 2, .int .i64 a2, .int .i64 (l1.length : Int), .slice none 0 0, .string (⟨#[]⟩ : ByteArray), .int .i64 0] 50 (0, 0)) (by (with_reducible repeat (first | refine blk_drewN ?_ _ | refine blk_drew ?_ | refine blk_alloc ?_ _)); refine blk_put (cs := #[.int .i64 2, .int .i64 a2, .int .i64 (l1.length : Int), .slice none 0 0, .string (⟨#[]⟩ : ByteArray), .int .i64 0]) ?_ 5 _ rfl; (with_reducible repeat (first | refine blk_drewN ?_ _ | refine blk_drew ?_ | refine blk_alloc ?_ _)); refine blk_put (cs := #[.int .i64 2, .int .i64 a2, .int .i64 (l1.length : Int), .slice none 0 0, .string (⟨#[]⟩ : ByteArray), .int .i64 0]) ?_ 4 _ rfl; (with_reducible repeat (first | refine blk_drewN ?_ _ | refine blk_drew ?_ | refine blk_alloc ?_ _)); refine blk_put (cs := #[.int .i64 2, .int .i64 a2, .int .i64 (l1.length : Int), .slice none 0 0, .string (⟨#[]⟩ : ByteArray), .int .i64 0]) ?_ 3 _ rfl; (with_reducible repeat (first | refine blk_drewN ?_ _ | refine blk_drew ?_ | refine blk_alloc ?_ _)); refine blk_put (cs := #[.int .i64 2, .int .i64 a2, .int .i64 0, .slice none 0 0, .string (⟨#[]⟩ : ByteArray), .int .i64 0]) ?_ 2 _ rfl; (with_reducible repeat (first | refine blk_drewN ?_ _ | refine blk_drew ?_ | refine blk_alloc ?_ _)); refine blk_put (cs := #[.int .i64 2, .int .i64 0, .int .i64 0, .slice none 0 0, .string (⟨#[]⟩ : ByteArray), .int .i64 0]) ?_ 1 _ rfl; (with_reducible repeat (first | refine blk_drewN ?_ _ | refine blk_drew ?_ | refine blk_alloc ?_ _)); refine blk_put (cs := #[.int .i64 0, .int .i64 0, .int .i64 0, .slice none 0 0, .string (⟨#[]⟩ : ByteArray), .int .i64 0]) ?_ 0 _ rfl; (with_reducible repeat (first | refine blk_drewN ?_ _ | refine blk_drew ?_ | refine blk_alloc ?_ _)); exact BK124.out) hb); have n1_ := Aside0.mk (below_step (by repeat (first | (with_reducible first | exact HB.out | apply below_alloc | apply pw_below_drewN | apply below_drew1 | refine below_set ?_ GE124.out) | exact HB.out)) hb); clear BK124; clear HB; have BK124 := n0_; have HB := n1_; clear n0_ n1_; (try clear hb); (try clear hb2); (try clear hk); (try clear hi); (try simp only [errW_none, errW_some])))
    repeat (go_quiet (first | ((with_reducible refine gate_dst (N := 7) rfl ?_); refine box_event ?hg (N := 7) ?hd (cs := #[.int .i64 0, .int .i64 0, .int .i64 0, .slice none 0 0, .string (⟨#[]⟩ : ByteArray), .int .i64 0]) (t := 50) ?hr ?_; (case hd => rfl); (case hg => rfl); (case hr => first | (go_simp; done) | (go_simp; rfl)); intro gb124 hg w6 hbox hb; have n0_ := Aside0.mk (below_step (by repeat (first | (with_reducible first | exact HB.out | apply below_alloc | apply pw_below_drewN | apply below_drew1) | exact HB.out)) hb); have n1_ := Aside0.mk (hbox); have n2_ := Aside0.mk ((by rw [hg]; exact (below_size (by repeat (first | (with_reducible first | exact HB.out | apply below_alloc | apply pw_below_drewN | apply below_drew1) | exact HB.out))) : w.heap.size ≤ gb124)); have n3_ := Aside0.mk ((by rw [hg]; exact (below_size (by repeat (first | (with_reducible first | exact HB.out | apply below_alloc | apply pw_below_drewN | apply below_drew1) | exact HB.out))) : w.heap.size ≤ gb124)); clear HB; have HB := n0_; have BK124 := n1_; have GW124 := n2_; have GE124 := n3_; clear n0_ n1_ n2_ n3_; clear hb hbox hg; have hcz7_0 : w6.cell? ⟨gb124, 0, none⟩ = some (.int .i64 0) := (blk_cell BK124.out 0).trans rfl; have hcz7_1 : w6.cell? ⟨gb124, 1, none⟩ = some (.int .i64 0) := (blk_cell BK124.out 1).trans rfl; have hcz7_2 : w6.cell? ⟨gb124, 2, none⟩ = some (.int .i64 0) := (blk_cell BK124.out 2).trans rfl; have hcz7_3 : w6.cell? ⟨gb124, 3, none⟩ = some (.slice none 0 0) := (blk_cell BK124.out 3).trans rfl; have hcz7_4 : w6.cell? ⟨gb124, 4, none⟩ = some (.string (⟨#[]⟩ : ByteArray)) := (blk_cell BK124.out 4).trans rfl; have hcz7_5 : w6.cell? ⟨gb124, 5, none⟩ = some (.int .i64 0) := (blk_cell BK124.out 5).trans rfl; have hfz7_0 := blk_frozen BK124.out 0; have hfz7_1 := blk_frozen BK124.out 1; have hfz7_2 := blk_frozen BK124.out 2; have hfz7_3 := blk_frozen BK124.out 3; have hfz7_4 := blk_frozen BK124.out 4; have hfz7_5 := blk_frozen BK124.out 5) | (go_at_call 46; (refine (entry_Check.calls k 2 a2 (l1.length : Int) _ _ ([] : List Int) (⟨#[]⟩ : ByteArray) 0 none _ ?side1 ?side2 A4.out).mono ?_); (case side1 => exact Kd.C_nil _ _); (case side2 => exact Nat.le_refl _); rintro e w8 ⟨rfl, hb⟩; have n0_ := Aside0.mk (blk_below (g := gb124) (o := .cells #[.int .i64 2, .int .i64 a2, .int .i64 (l1.length : Int), .slice none 0 0, .string (⟨#[]⟩ : ByteArray), .int .i64 0] 50 (0, 0)) (by (with_reducible repeat (first | refine blk_drewN ?_ _ | refine blk_drew ?_ | refine blk_alloc ?_ _)); refine blk_put (cs := #[.int .i64 2, .int .i64 a2, .int .i64 (l1.length : Int), .slice none 0 0, .string (⟨#[]⟩ : ByteArray), .int .i64 0]) ?_ 5 _ rfl; (with_reducible repeat (first | refine blk_drewN ?_ _ | refine blk_drew ?_ | refine blk_alloc ?_ _)); refine blk_put (cs := #[.int .i64 2, .int .i64 a2, .int .i64 (l1.length : Int), .slice none 0 0, .string (⟨#[]⟩ : ByteArray), .int .i64 0]) ?_ 4 _ rfl; (with_reducible repeat (first | refine blk_drewN ?_ _ | refine blk_drew ?_ | refine blk_alloc ?_ _)); refine blk_put (cs := #[.int .i64 2, .int .i64 a2, .int .i64 (l1.length : Int), .slice none 0 0, .string (⟨#[]⟩ : ByteArray), .int .i64 0]) ?_ 3 _ rfl; (with_reducible repeat (first | refine blk_drewN ?_ _ | refine blk_drew ?_ | refine blk_alloc ?_ _)); refine blk_put (cs := #[.int .i64 2, .int .i64 a2, .int .i64 0, .slice none 0 0, .string (⟨#[]⟩ : ByteArray), .int .i64 0]) ?_ 2 _ rfl; (with_reducible repeat (first | refine blk_drewN ?_ _ | refine blk_drew ?_ | refine blk_alloc ?_ _)); refine blk_put (cs := #[.int .i64 2, .int .i64 0, .int .i64 0, .slice none 0 0, .string (⟨#[]⟩ : ByteArray), .int .i64 0]) ?_ 1 _ rfl; (with_reducible repeat (first | refine blk_drewN ?_ _ | refine blk_drew ?_ | refine blk_alloc ?_ _)); refine blk_put (cs := #[.int .i64 0, .int .i64 0, .int .i64 0, .slice none 0 0, .string (⟨#[]⟩ : ByteArray), .int .i64 0]) ?_ 0 _ rfl; (with_reducible repeat (first | refine blk_drewN ?_ _ | refine blk_drew ?_ | refine blk_alloc ?_ _)); exact BK124.out) hb); have n1_ := Aside0.mk (below_step (by repeat (first | (with_reducible first | exact HB.out | apply below_alloc | apply pw_below_drewN | apply below_drew1 | refine below_set ?_ GE124.out) | exact HB.out)) hb); clear BK124; clear HB; have BK124 := n0_; have HB := n1_; clear n0_ n1_; (try clear hb); (try clear hb2); (try clear hk); (try clear hi); (try simp only [errW_none, errW_some]))); go_upto_if 21 with (first | ((with_reducible refine gate_dst (N := 7) rfl ?_); refine box_event ?hg (N := 7) ?hd (cs := #[.int .i64 0, .int .i64 0, .int .i64 0, .slice none 0 0, .string (⟨#[]⟩ : ByteArray), .int .i64 0]) (t := 50) ?hr ?_; (case hd => rfl); (case hg => rfl); (case hr => first | (go_simp; done) | (go_simp; rfl)); intro gb124 hg w6 hbox hb; have n0_ := Aside0.mk (below_step (by repeat (first | (with_reducible first | exact HB.out | apply below_alloc | apply pw_below_drewN | apply below_drew1) | exact HB.out)) hb); have n1_ := Aside0.mk (hbox); have n2_ := Aside0.mk ((by rw [hg]; exact (below_size (by repeat (first | (with_reducible first | exact HB.out | apply below_alloc | apply pw_below_drewN | apply below_drew1) | exact HB.out))) : w.heap.size ≤ gb124)); have n3_ := Aside0.mk ((by rw [hg]; exact (below_size (by repeat (first | (with_reducible first | exact HB.out | apply below_alloc | apply pw_below_drewN | apply below_drew1) | exact HB.out))) : w.heap.size ≤ gb124)); clear HB; have HB := n0_; have BK124 := n1_; have GW124 := n2_; have GE124 := n3_; clear n0_ n1_ n2_ n3_; clear hb hbox hg; have hcz7_0 : w6.cell? ⟨gb124, 0, none⟩ = some (.int .i64 0) := (blk_cell BK124.out 0).trans rfl; have hcz7_1 : w6.cell? ⟨gb124, 1, none⟩ = some (.int .i64 0) := (blk_cell BK124.out 1).trans rfl; have hcz7_2 : w6.cell? ⟨gb124, 2, none⟩ = some (.int .i64 0) := (blk_cell BK124.out 2).trans rfl; have hcz7_3 : w6.cell? ⟨gb124, 3, none⟩ = some (.slice none 0 0) := (blk_cell BK124.out 3).trans rfl; have hcz7_4 : w6.cell? ⟨gb124, 4, none⟩ = some (.string (⟨#[]⟩ : ByteArray)) := (blk_cell BK124.out 4).trans rfl; have hcz7_5 : w6.cell? ⟨gb124, 5, none⟩ = some (.int .i64 0) := (blk_cell BK124.out 5).trans rfl; have hfz7_0 := blk_frozen BK124.out 0; have hfz7_1 := blk_frozen BK124.out 1; have hfz7_2 := blk_frozen BK124.out 2; have hfz7_3 := blk_frozen BK124.out 3; have hfz7_4 := blk_frozen BK124.out 4; have hfz7_5 := blk_frozen BK124.out 5) | (go_at_call 46; (refine (entry_Check.calls k 2 a2 (l1.length : Int) _ _ ([] : List Int) (⟨#[]⟩ : ByteArray) 0 none _ ?side1 ?side2 A4.out).mono ?_); (case side1 => exact Kd.C_nil _ _); (case side2 => exact Nat.le_refl _); rintro e w8 ⟨rfl, hb⟩; have n0_ := Aside0.mk (blk_below (g := gb124) (o := .cells #[.int .i64 2, .int .i64 a2, .int .i64 (l1.length : Int), .slice none 0 0, .string (⟨#[]⟩ : ByteArray), .int .i64 0] 50 (0, 0)) (by (with_reducible repeat (first | refine blk_drewN ?_ _ | refine blk_drew ?_ | refine blk_alloc ?_ _)); refine blk_put (cs := #[.int .i64 2, .int .i64 a2, .int .i64 (l1.length : Int), .slice none 0 0, .string (⟨#[]⟩ : ByteArray), .int .i64 0]) ?_ 5 _ rfl; (with_reducible repeat (first | refine blk_drewN ?_ _ | refine blk_drew ?_ | refine blk_alloc ?_ _)); refine blk_put (cs := #[.int .i64 2, .int .i64 a2, .int .i64 (l1.length : Int), .slice none 0 0, .string (⟨#[]⟩ : ByteArray), .int .i64 0]) ?_ 4 _ rfl; (with_reducible repeat (first | refine blk_drewN ?_ _ | refine blk_drew ?_ | refine blk_alloc ?_ _)); refine blk_put (cs := #[.int .i64 2, .int .i64 a2, .int .i64 (l1.length : Int), .slice none 0 0, .string (⟨#[]⟩ : ByteArray), .int .i64 0]) ?_ 3 _ rfl; (with_reducible repeat (first | refine blk_drewN ?_ _ | refine blk_drew ?_ | refine blk_alloc ?_ _)); refine blk_put (cs := #[.int .i64 2, .int .i64 a2, .int .i64 0, .slice none 0 0, .string (⟨#[]⟩ : ByteArray), .int .i64 0]) ?_ 2 _ rfl; (with_reducible repeat (first | refine blk_drewN ?_ _ | refine blk_drew ?_ | refine blk_alloc ?_ _)); refine blk_put (cs := #[.int .i64 2, .int .i64 0, .int .i64 0, .slice none 0 0, .string (⟨#[]⟩ : ByteArray), .int .i64 0]) ?_ 1 _ rfl; (with_reducible repeat (first | refine blk_drewN ?_ _ | refine blk_drew ?_ | refine blk_alloc ?_ _)); refine blk_put (cs := #[.int .i64 0, .int .i64 0, .int .i64 0, .slice none 0 0, .string (⟨#[]⟩ : ByteArray), .int .i64 0]) ?_ 0 _ rfl; (with_reducible repeat (first | refine blk_drewN ?_ _ | refine blk_drew ?_ | refine blk_alloc ?_ _)); exact BK124.out) hb); have n1_ := Aside0.mk (below_step (by repeat (first | (with_reducible first | exact HB.out | apply below_alloc | apply pw_below_drewN | apply below_drew1 | refine below_set ?_ GE124.out) | exact HB.out)) hb); clear BK124; clear HB; have BK124 := n0_; have HB := n1_; clear n0_ n1_; (try clear hb); (try clear hb2); (try clear hk); (try clear hi); (try simp only [errW_none, errW_some]))))
    (try simp only [Act.put, List.setIfInBounds_toArray, List.set_cons_zero, List.set_cons_succ])
    go_cut [6] (fun v6 wc => ∃ (kq : Nat) (x6_4 : List (S50)), Aside0 (fold_Change.j0 kq l0 l1 a2 x6_4 = some r) ∧ Aside0 (kq ≤ k) ∧ Aside0 (Kd.S k50 50 wc w.heap.size (fun k_ => k_ ≠ gb124) v6 x6_4) ∧ Aside0 (wc.heap[gb124]? = some (.cells #[.int .i64 2, .int .i64 a2, .int .i64 (l1.length : Int), (.slice none 0 0), .string (⟨#[]⟩ : ByteArray), .int .i64 0] 50 (0, 0))) ∧ Aside0 (Below w.heap.size w wc))
    case first =>
      have H := HC5.out
      clear HC5
      by_cases c9 : (l0.length : Int) = (l1.length : Int)
      · rw [if_pos c9] at H
        have c9b0 : ((l0.length : Int) == (l1.length : Int)) = true := beq_iff_eq.mpr c9
        have c9b1 : ((l0.length : Int) != (l1.length : Int)) = false := bne_eq_false_iff_eq.mpr c9
        have c9b2 : (l0.length == l1.length) = true := by first | simpa using c9 | (simp at c9 ⊢; omega)
        clear c9
        (first | rw [c9b0] | (simp only [i64_w, i32_w]; rw [c9b0]) | skip)
        have H' := Aside0.mk H
        clear H
        go_wp2
        repeat (go_quiet (fail); try go_wp2)
        go_meet
        case rel => exact ⟨_, (([] : List (S50))), H', ⟨by first | omega | exact Nat.le_refl _⟩, ⟨by first | exact Kd.S_nil _ _ _ _ _ | exact Kd.N_nil _ _ _ _ _ | exact Kd.V_nil _ _ _ _ _ | exact Kd.Q_nil _ _ _ _ _ | exact Kd.R_nil _ _ _ _ _⟩, ⟨by (with_reducible repeat (first | refine blk_drewN ?_ _ | refine blk_drew ?_ | refine blk_alloc ?_ _)); exact BK124.out⟩, ⟨by repeat (first | (with_reducible first | exact HB.out | apply below_alloc | apply pw_below_drewN | apply below_drew1 | refine below_set ?_ GE124.out) | exact HB.out)⟩⟩
      · rw [if_neg c9] at H
        have c9b0 : ((l0.length : Int) == (l1.length : Int)) = false := beq_eq_false_iff_ne.mpr c9
        have c9b1 : ((l0.length : Int) != (l1.length : Int)) = true := bne_iff_ne.mpr c9
        have c9b2 : (l0.length == l1.length) = false := by first | simpa using c9 | (simp at c9 ⊢; omega)
        (first | rw [c9b0] | (simp only [i64_w, i32_w]; rw [c9b0]) | skip)
        by_cases c10 : ([] : List (S50)).length < 1954687338268
        · rw [if_pos c10] at H
          have LMc10 := Aside0.mk c10
          clear c10
          obtain ⟨y127, hy127⟩ : ∃ y_ : List (S50), y_ = (([] : List (S50)) ++ [(⟨2, a2, (l1.length : Int), ([] : List Int), (⟨#[]⟩ : ByteArray), 0⟩ : S50)]) := ⟨_, rfl⟩
          replace H : (fold_Change.j0 k l0 l1 a2 y127) = some r := by first | (rw [hy127]; with_reducible exact H) | (have H2_ := (Option.bind_some _ _).symm.trans H; rw [hy127]; with_reducible exact H2_) | (have H2_ := (Option.bind_some _ _).symm.trans H; with_reducible exact H2_) | with_reducible exact H | (rw [hy127]; exact H) | exact H
          have Ny127 := Aside0.mk hy127
          clear hy127
          have H' := Aside0.mk H
          clear H
          have hcz11_0 : w8.cell? ⟨gb124, 0, none⟩ = some (.int .i64 2) := (blk_cell BK124.out 0).trans rfl
          have hcz11_1 : w8.cell? ⟨gb124, 1, none⟩ = some (.int .i64 a2) := (blk_cell BK124.out 1).trans rfl
          have hcz11_2 : w8.cell? ⟨gb124, 2, none⟩ = some (.int .i64 (l1.length : Int)) := (blk_cell BK124.out 2).trans rfl
          have hcz11_3 : w8.cell? ⟨gb124, 3, none⟩ = some (.slice none 0 0) := (blk_cell BK124.out 3).trans rfl
          have hcz11_4 : w8.cell? ⟨gb124, 4, none⟩ = some (.string (⟨#[]⟩ : ByteArray)) := (blk_cell BK124.out 4).trans rfl
          have hcz11_5 : w8.cell? ⟨gb124, 5, none⟩ = some (.int .i64 0) := (blk_cell BK124.out 5).trans rfl
          have hfz11_0 := blk_frozen BK124.out 0
          have hfz11_1 := blk_frozen BK124.out 1
          have hfz11_2 := blk_frozen BK124.out 2
          have hfz11_3 := blk_frozen BK124.out 3
          have hfz11_4 := blk_frozen BK124.out 4
          have hfz11_5 := blk_frozen BK124.out 5
          go_wp2_with (first | ((with_reducible refine gate_builtin (b := .append) (xs := #[.tmp 22, .tmp 24]) rfl ?_); at_builtin; refine Kd.S_append k50 (w0 := w) w.heap.size rfl (.tmp 22) (.tmp 24) 27 50 (.agg #[(.int .i64 0), (.int .i64 0), (.int .i64 0), (.slice none 0 0), (.string ⟨#[]⟩), (.int .i64 0)]) 72 rfl Try.underlying27 info50 rfl (by decide) (by omega) (.slice none 0 0) ([] : List (S50)) (⟨2, a2, (l1.length : Int), ([] : List Int), (⟨#[]⟩ : ByteArray), 0⟩ : S50) [.int .i64 2, .int .i64 a2, .int .i64 (l1.length : Int), .slice none 0 0, .string (⟨#[]⟩ : ByteArray), .int .i64 0] (fun k_ => k_ ≠ gb124) (fun _ => False) rfl rfl ?aP (fun k_ hk_ => hk_.elim) ?aF ?aO ?aB ?aS ?aL ?_; (case aP => exact k50_mkM _ _ _ (⟨2, a2, (l1.length : Int), ([] : List Int), (⟨#[]⟩ : ByteArray), 0⟩ : S50) (Kd.R_nil _ _ _ _ _)); (case aB => exact (by repeat (first | (with_reducible first | exact HB.out | apply below_alloc | apply pw_below_drewN | apply below_drew1 | refine below_set ?_ GE124.out) | exact HB.out))); (case aF => exact (fun k_ hk => Kd.freshB (g := gb124) (o := .cells #[.int .i64 2, .int .i64 a2, .int .i64 (l1.length : Int), .slice none 0 0, .string (⟨#[]⟩ : ByteArray), .int .i64 0] 50 (0, 0)) (by (with_reducible repeat (first | refine blk_drewN ?_ _ | refine blk_drew ?_ | refine blk_alloc ?_ _)); exact BK124.out) k_ hk)); (case aO => exact ((Kd.S_nil _ _ _ _ _))); (case aS => exact (below_size (by repeat (first | (with_reducible first | exact HB.out | apply below_alloc | apply pw_below_drewN | apply below_drew1 | refine below_set ?_ GE124.out) | exact HB.out)))); (case aL => have := LMc10.out; omega); intro v128 w12 ho hb hg hat; rw [← Ny127.out] at ho; have n0_ := Aside0.mk (blk_grown (g := gb124) (o := .cells #[.int .i64 2, .int .i64 a2, .int .i64 (l1.length : Int), .slice none 0 0, .string (⟨#[]⟩ : ByteArray), .int .i64 0] 50 (0, 0)) (by (with_reducible repeat (first | refine blk_drewN ?_ _ | refine blk_drew ?_ | refine blk_alloc ?_ _)); exact BK124.out) hg (by simp [Value.ownBlock])); have n1_ := Aside0.mk (hb); have n2_ := Aside0.mk (ho); clear BK124; clear HB; have BK124 := n0_; have HB := n1_; have HO129 := n2_; clear n0_ n1_ n2_; clear ho hb hg hat))
          repeat (go_quiet (first | ((with_reducible refine gate_builtin (b := .append) (xs := #[.tmp 22, .tmp 24]) rfl ?_); at_builtin; refine Kd.S_append k50 (w0 := w) w.heap.size rfl (.tmp 22) (.tmp 24) 27 50 (.agg #[(.int .i64 0), (.int .i64 0), (.int .i64 0), (.slice none 0 0), (.string ⟨#[]⟩), (.int .i64 0)]) 72 rfl Try.underlying27 info50 rfl (by decide) (by omega) (.slice none 0 0) ([] : List (S50)) (⟨2, a2, (l1.length : Int), ([] : List Int), (⟨#[]⟩ : ByteArray), 0⟩ : S50) [.int .i64 2, .int .i64 a2, .int .i64 (l1.length : Int), .slice none 0 0, .string (⟨#[]⟩ : ByteArray), .int .i64 0] (fun k_ => k_ ≠ gb124) (fun _ => False) rfl rfl ?aP (fun k_ hk_ => hk_.elim) ?aF ?aO ?aB ?aS ?aL ?_; (case aP => exact k50_mkM _ _ _ (⟨2, a2, (l1.length : Int), ([] : List Int), (⟨#[]⟩ : ByteArray), 0⟩ : S50) (Kd.R_nil _ _ _ _ _)); (case aB => exact (by repeat (first | (with_reducible first | exact HB.out | apply below_alloc | apply pw_below_drewN | apply below_drew1 | refine below_set ?_ GE124.out) | exact HB.out))); (case aF => exact (fun k_ hk => Kd.freshB (g := gb124) (o := .cells #[.int .i64 2, .int .i64 a2, .int .i64 (l1.length : Int), .slice none 0 0, .string (⟨#[]⟩ : ByteArray), .int .i64 0] 50 (0, 0)) (by (with_reducible repeat (first | refine blk_drewN ?_ _ | refine blk_drew ?_ | refine blk_alloc ?_ _)); exact BK124.out) k_ hk)); (case aO => exact ((Kd.S_nil _ _ _ _ _))); (case aS => exact (below_size (by repeat (first | (with_reducible first | exact HB.out | apply below_alloc | apply pw_below_drewN | apply below_drew1 | refine below_set ?_ GE124.out) | exact HB.out)))); (case aL => have := LMc10.out; omega); intro v128 w12 ho hb hg hat; rw [← Ny127.out] at ho; have n0_ := Aside0.mk (blk_grown (g := gb124) (o := .cells #[.int .i64 2, .int .i64 a2, .int .i64 (l1.length : Int), .slice none 0 0, .string (⟨#[]⟩ : ByteArray), .int .i64 0] 50 (0, 0)) (by (with_reducible repeat (first | refine blk_drewN ?_ _ | refine blk_drew ?_ | refine blk_alloc ?_ _)); exact BK124.out) hg (by simp [Value.ownBlock])); have n1_ := Aside0.mk (hb); have n2_ := Aside0.mk (ho); clear BK124; clear HB; have BK124 := n0_; have HB := n1_; have HO129 := n2_; clear n0_ n1_ n2_; clear ho hb hg hat)); try go_wp2_with (first | ((with_reducible refine gate_builtin (b := .append) (xs := #[.tmp 22, .tmp 24]) rfl ?_); at_builtin; refine Kd.S_append k50 (w0 := w) w.heap.size rfl (.tmp 22) (.tmp 24) 27 50 (.agg #[(.int .i64 0), (.int .i64 0), (.int .i64 0), (.slice none 0 0), (.string ⟨#[]⟩), (.int .i64 0)]) 72 rfl Try.underlying27 info50 rfl (by decide) (by omega) (.slice none 0 0) ([] : List (S50)) (⟨2, a2, (l1.length : Int), ([] : List Int), (⟨#[]⟩ : ByteArray), 0⟩ : S50) [.int .i64 2, .int .i64 a2, .int .i64 (l1.length : Int), .slice none 0 0, .string (⟨#[]⟩ : ByteArray), .int .i64 0] (fun k_ => k_ ≠ gb124) (fun _ => False) rfl rfl ?aP (fun k_ hk_ => hk_.elim) ?aF ?aO ?aB ?aS ?aL ?_; (case aP => exact k50_mkM _ _ _ (⟨2, a2, (l1.length : Int), ([] : List Int), (⟨#[]⟩ : ByteArray), 0⟩ : S50) (Kd.R_nil _ _ _ _ _)); (case aB => exact (by repeat (first | (with_reducible first | exact HB.out | apply below_alloc | apply pw_below_drewN | apply below_drew1 | refine below_set ?_ GE124.out) | exact HB.out))); (case aF => exact (fun k_ hk => Kd.freshB (g := gb124) (o := .cells #[.int .i64 2, .int .i64 a2, .int .i64 (l1.length : Int), .slice none 0 0, .string (⟨#[]⟩ : ByteArray), .int .i64 0] 50 (0, 0)) (by (with_reducible repeat (first | refine blk_drewN ?_ _ | refine blk_drew ?_ | refine blk_alloc ?_ _)); exact BK124.out) k_ hk)); (case aO => exact ((Kd.S_nil _ _ _ _ _))); (case aS => exact (below_size (by repeat (first | (with_reducible first | exact HB.out | apply below_alloc | apply pw_below_drewN | apply below_drew1 | refine below_set ?_ GE124.out) | exact HB.out)))); (case aL => have := LMc10.out; omega); intro v128 w12 ho hb hg hat; rw [← Ny127.out] at ho; have n0_ := Aside0.mk (blk_grown (g := gb124) (o := .cells #[.int .i64 2, .int .i64 a2, .int .i64 (l1.length : Int), .slice none 0 0, .string (⟨#[]⟩ : ByteArray), .int .i64 0] 50 (0, 0)) (by (with_reducible repeat (first | refine blk_drewN ?_ _ | refine blk_drew ?_ | refine blk_alloc ?_ _)); exact BK124.out) hg (by simp [Value.ownBlock])); have n1_ := Aside0.mk (hb); have n2_ := Aside0.mk (ho); clear BK124; clear HB; have BK124 := n0_; have HB := n1_; have HO129 := n2_; clear n0_ n1_ n2_; clear ho hb hg hat)))
          go_meet
          case rel => exact ⟨_, (y127), H', ⟨by first | omega | exact Nat.le_refl _⟩, ⟨by (with_reducible repeat (first | apply Kd.S_alloc | apply Kd.S_drewN | apply Kd.S_drew)); exact HO129.out⟩, ⟨by (with_reducible repeat (first | refine blk_drewN ?_ _ | refine blk_drew ?_ | refine blk_alloc ?_ _)); exact BK124.out⟩, ⟨by repeat (first | (with_reducible first | exact HB.out | apply below_alloc | apply pw_below_drewN | apply below_drew1 | refine below_set ?_ GE124.out) | exact HB.out)⟩⟩
        · rw [if_neg c10] at H
          exact absurd H (by simp)
    case rest =>
      clear HC5
      try clear c1
      try clear q1
      try clear p2
      try clear c9
      try clear c9b0
      try clear c9b1
      try clear c9b2
      try clear c10
      try clear q12
      try clear hcz11_0
      try clear hcz11_1
      try clear hcz11_2
      try clear hcz11_3
      try clear hcz11_4
      try clear hcz11_5
      try clear hcz7_0
      try clear hcz7_1
      try clear hcz7_2
      try clear hcz7_3
      try clear hcz7_4
      try clear hcz7_5
      try clear hfz11_0
      try clear hfz11_1
      try clear hfz11_2
      try clear hfz11_3
      try clear hfz11_4
      try clear hfz11_5
      try clear hfz7_0
      try clear hfz7_1
      try clear hfz7_2
      try clear hfz7_3
      try clear hfz7_4
      try clear hfz7_5
      try clear q126
      obtain ⟨kq, x6_4, HA, HJ4, HO_6, BK124, HB⟩ := hcut
      cases kq with
      | zero => exact absurd HA.out (by simp [fold_Change.j0])
      | succ kj4 =>
        have H := HA.out
        clear HA
        simp only [fold_Change.j0] at H
        replace H := Option.bind_eq_some_iff.mp H
        obtain ⟨t130, A130, H⟩ := H
        replace H : (fold_Change.l0 kj4 t130 l1 a2 x6_4 0 (l1.length : Int)) = some r := H
        have A13 := Aside0.mk A130
        clear A130
        have HC14 := Aside0.mk H
        clear H
        go_upto_block 0 with (first | (go_at_call 47; (with_reducible refine (fold_sized.calls _ _ l0 (l1.length : Int) t130 _ ?side1 ?side2 A13.out).mono ?_); (case side1 => repeat (first | exact (Kd.C_below HR0.out HB.out) | (with_reducible refine Kd.C_alloc ?_ _) | (with_reducible refine Kd.C_drewN ?_ _) | (with_reducible refine Kd.C_drew ?_))); (case side2 => exact HC0.out); rintro e w15 ⟨v131, rfl, ho0, hb⟩; have n0_ := Aside0.mk (Kd.S_elder' (by (with_reducible repeat (first | apply Kd.S_alloc | apply Kd.S_drewN | apply Kd.S_drew)); exact HO_6.out) (Kd.R_base ho0) hb); have n1_ := Aside0.mk (Kd.R_lower ho0 (below_size (by repeat (first | (with_reducible first | exact HB.out | apply below_alloc | apply pw_below_drewN | apply below_drew1 | refine below_set ?_ GE124.out) | exact HB.out)))); have n2_ := Aside0.mk (blk_below (g := gb124) (o := .cells #[.int .i64 2, .int .i64 a2, .int .i64 (l1.length : Int), .slice none 0 0, .string (⟨#[]⟩ : ByteArray), .int .i64 0] 50 (0, 0)) (by (with_reducible repeat (first | refine blk_drewN ?_ _ | refine blk_drew ?_ | refine blk_alloc ?_ _)); exact BK124.out) hb); have n3_ := Aside0.mk (below_step (by repeat (first | (with_reducible first | exact HB.out | apply below_alloc | apply pw_below_drewN | apply below_drew1 | refine below_set ?_ GE124.out) | exact HB.out)) hb); clear HO_6; clear BK124; clear HB; have HO_6 := n0_; have HO132 := n1_; have BK124 := n2_; have HB := n3_; clear n0_ n1_ n2_ n3_; (try clear hb); (try clear hb2); (try clear hk); (try clear hi); (try clear ho0)))
        repeat (go_quiet (first | (go_at_call 47; (with_reducible refine (fold_sized.calls _ _ l0 (l1.length : Int) t130 _ ?side1 ?side2 A13.out).mono ?_); (case side1 => repeat (first | exact (Kd.C_below HR0.out HB.out) | (with_reducible refine Kd.C_alloc ?_ _) | (with_reducible refine Kd.C_drewN ?_ _) | (with_reducible refine Kd.C_drew ?_))); (case side2 => exact HC0.out); rintro e w15 ⟨v131, rfl, ho0, hb⟩; have n0_ := Aside0.mk (Kd.S_elder' (by (with_reducible repeat (first | apply Kd.S_alloc | apply Kd.S_drewN | apply Kd.S_drew)); exact HO_6.out) (Kd.R_base ho0) hb); have n1_ := Aside0.mk (Kd.R_lower ho0 (below_size (by repeat (first | (with_reducible first | exact HB.out | apply below_alloc | apply pw_below_drewN | apply below_drew1 | refine below_set ?_ GE124.out) | exact HB.out)))); have n2_ := Aside0.mk (blk_below (g := gb124) (o := .cells #[.int .i64 2, .int .i64 a2, .int .i64 (l1.length : Int), .slice none 0 0, .string (⟨#[]⟩ : ByteArray), .int .i64 0] 50 (0, 0)) (by (with_reducible repeat (first | refine blk_drewN ?_ _ | refine blk_drew ?_ | refine blk_alloc ?_ _)); exact BK124.out) hb); have n3_ := Aside0.mk (below_step (by repeat (first | (with_reducible first | exact HB.out | apply below_alloc | apply pw_below_drewN | apply below_drew1 | refine below_set ?_ GE124.out) | exact HB.out)) hb); clear HO_6; clear BK124; clear HB; have HO_6 := n0_; have HO132 := n1_; have BK124 := n2_; have HB := n3_; clear n0_ n1_ n2_ n3_; (try clear hb); (try clear hb2); (try clear hk); (try clear hi); (try clear ho0))); go_upto_block 0 with (first | (go_at_call 47; (with_reducible refine (fold_sized.calls _ _ l0 (l1.length : Int) t130 _ ?side1 ?side2 A13.out).mono ?_); (case side1 => repeat (first | exact (Kd.C_below HR0.out HB.out) | (with_reducible refine Kd.C_alloc ?_ _) | (with_reducible refine Kd.C_drewN ?_ _) | (with_reducible refine Kd.C_drew ?_))); (case side2 => exact HC0.out); rintro e w15 ⟨v131, rfl, ho0, hb⟩; have n0_ := Aside0.mk (Kd.S_elder' (by (with_reducible repeat (first | apply Kd.S_alloc | apply Kd.S_drewN | apply Kd.S_drew)); exact HO_6.out) (Kd.R_base ho0) hb); have n1_ := Aside0.mk (Kd.R_lower ho0 (below_size (by repeat (first | (with_reducible first | exact HB.out | apply below_alloc | apply pw_below_drewN | apply below_drew1 | refine below_set ?_ GE124.out) | exact HB.out)))); have n2_ := Aside0.mk (blk_below (g := gb124) (o := .cells #[.int .i64 2, .int .i64 a2, .int .i64 (l1.length : Int), .slice none 0 0, .string (⟨#[]⟩ : ByteArray), .int .i64 0] 50 (0, 0)) (by (with_reducible repeat (first | refine blk_drewN ?_ _ | refine blk_drew ?_ | refine blk_alloc ?_ _)); exact BK124.out) hb); have n3_ := Aside0.mk (below_step (by repeat (first | (with_reducible first | exact HB.out | apply below_alloc | apply pw_below_drewN | apply below_drew1 | refine below_set ?_ GE124.out) | exact HB.out)) hb); clear HO_6; clear BK124; clear HB; have HO_6 := n0_; have HO132 := n1_; have BK124 := n2_; have HB := n3_; clear n0_ n1_ n2_ n3_; (try clear hb); (try clear hb2); (try clear hk); (try clear hi); (try clear ho0))))
        (try simp only [Act.put, List.setIfInBounds_toArray, List.set_cons_zero, List.set_cons_succ])
        go_cut [8] (fun v8 wc => ∃ (kq : Nat) (x8_13 : Int), v8 = .int .i64 x8_13 ∧ Aside0 (fold_Change.j2 kq t130 l1 a2 x6_4 x8_13 (l1.length : Int) = some r) ∧ Aside0 (kq ≤ kj4) ∧ Aside0 (Kd.R (Kd.int .u8) 5 wc w.heap.size (fun _ => True) v131 t130) ∧ Aside0 (Kd.S k50 50 wc w.heap.size (fun k_ => some k_ ≠ (v131 : Value).ownBlock ∧ k_ ≠ gb124) u6 x6_4) ∧ Aside0 (wc.heap[gb124]? = some (.cells #[.int .i64 2, .int .i64 a2, .int .i64 (l1.length : Int), (.slice none 0 0), .string (⟨#[]⟩ : ByteArray), .int .i64 0] 50 (0, 0))) ∧ Aside0 (Below w.heap.size w wc))
        case first =>
          have H := HC14.out
          clear HC14
          have H' := Aside0.mk H
          clear H
          go_wp2
          repeat (go_quiet (fail); try go_wp2)
          go_loopg [8] kj4 (fun kq v8 w' => ∃ (x8_2 : Int), v8 = .int .i64 x8_2 ∧ Aside0 (fold_Change.l0 kq t130 l1 a2 x6_4 x8_2 (l1.length : Int) = some r) ∧ Aside0 (kq ≤ kj4) ∧ Aside0 (Kd.R (Kd.int .u8) 5 w' w.heap.size (fun _ => True) v131 t130) ∧ Aside0 (Kd.S k50 50 w' w.heap.size (fun k_ => some k_ ≠ (v131 : Value).ownBlock ∧ k_ ≠ gb124) u6 x6_4) ∧ Aside0 (w'.heap[gb124]? = some (.cells #[.int .i64 2, .int .i64 a2, .int .i64 (l1.length : Int), (.slice none 0 0), .string (⟨#[]⟩ : ByteArray), .int .i64 0] 50 (0, 0))) ∧ Aside0 (Below w.heap.size w w'))
          case atStart => exact ⟨(0), (by first | rfl | (simp; done) | (simp [*]; done)), H', ⟨Nat.le_refl _⟩, ⟨by (with_reducible repeat (first | apply Kd.R_alloc | apply Kd.R_drewN | apply Kd.R_drew)); exact HO132.out⟩, ⟨by (with_reducible repeat (first | apply Kd.S_alloc | apply Kd.S_drewN | apply Kd.S_drew)); exact Kd.S_mono HO_6.out (fun _ hk => ⟨hk.2, hk.1⟩)⟩, ⟨by (with_reducible repeat (first | refine blk_drewN ?_ _ | refine blk_drew ?_ | refine blk_alloc ?_ _)); exact BK124.out⟩, ⟨by repeat (first | (with_reducible first | exact HB.out | apply below_alloc | apply pw_below_drewN | apply below_drew1 | refine below_set ?_ GE124.out) | exact HB.out)⟩⟩
          case round =>
            clear H'
            try clear c1
            try clear q1
            try clear p2
            try clear c9
            try clear c9b0
            try clear c9b1
            try clear c9b2
            try clear c10
            try clear q12
            try clear hcz11_0
            try clear hcz11_1
            try clear hcz11_2
            try clear hcz11_3
            try clear hcz11_4
            try clear hcz11_5
            try clear hcz7_0
            try clear hcz7_1
            try clear hcz7_2
            try clear hcz7_3
            try clear hcz7_4
            try clear hcz7_5
            try clear hfz11_0
            try clear hfz11_1
            try clear hfz11_2
            try clear hfz11_3
            try clear hfz11_4
            try clear hfz11_5
            try clear hfz7_0
            try clear hfz7_1
            try clear hfz7_2
            try clear hfz7_3
            try clear hfz7_4
            try clear hfz7_5
            try clear p2
            try clear q1
            try clear q12
            try clear q126
            obtain ⟨x8_2, rfl, HA, HK2, HO_0, HO_6, BK124, HB⟩ := hrel
            cases gk with
            | zero => exact absurd HA.out (by simp [fold_Change.l0])
            | succ k2 =>
              have H := HA.out
              clear HA
              simp only [fold_Change.l0] at H
              by_cases c16 : x8_2 < (l1.length : Int)
              · rw [if_pos c16] at H
                have c16b0 : decide (x8_2 < (l1.length : Int)) = true := decide_eq_true c16
                clear c16
                (first | rw [c16b0] | (simp only [i64_w, i32_w]; rw [c16b0]) | skip)
                by_cases c17 : 0 ≤ x8_2
                · rw [if_pos c17] at H
                  have c17b0 : decide (0 ≤ x8_2) = true := decide_eq_true c17
                  clear c17
                  by_cases c18 : x8_2 < (t130.length : Int)
                  · rw [if_pos c18] at H
                    have c18b0 : decide (x8_2 < (t130.length : Int)) = true := decide_eq_true c18
                    clear c18
                    by_cases c19 : x8_2 < (l1.length : Int)
                    · rw [if_pos c19] at H
                      have c19b0 : decide (x8_2 < (l1.length : Int)) = true := decide_eq_true c19
                      clear c19
                      by_cases c20 : (rd t130 x8_2) = (rd l1 x8_2)
                      · rw [if_pos c20] at H
                        have c20b0 : ((rd t130 x8_2) == (rd l1 x8_2)) = true := beq_iff_eq.mpr c20
                        have c20b1 : ((rd t130 x8_2) != (rd l1 x8_2)) = false := bne_eq_false_iff_eq.mpr c20
                        clear c20
                        have H' := Aside0.mk H
                        clear H
                        obtain ⟨Ao21, co21, eo21⟩ := Kd.R_slice HO_0.out
                        subst eo21
                        have p133 : 0 ≤ (x8_2 : Int) := of_decide_eq_true (by first | (with_reducible assumption) | assumption)
                        have q133 : x8_2 < (t130.length : Int) := of_decide_eq_true (by first | (with_reducible assumption) | assumption)
                        obtain ⟨ad133, e133, hx133_0⟩ := Kd.at_int (Kd.R_reads' HO_0.out).2.2 x8_2 p133 q133
                        cases e133
                        replace p133 := eq_true p133
                        replace q133 := eq_true q133
                        have p134 : 0 ≤ (x8_2 : Int) := of_decide_eq_true (by first | (with_reducible assumption) | assumption)
                        have q134 : x8_2 < (l1.length : Int) := of_decide_eq_true (by first | (with_reducible assumption) | assumption)
                        obtain ⟨ad134, e134, hx134_0⟩ := Kd.at_int HR1.out x8_2 p134 q134
                        cases e134
                        replace hx134_0 := (HB.out.cell (World.block_lt_of_cell? w _ hx134_0)).trans hx134_0
                        replace p134 := eq_true p134
                        replace q134 := eq_true q134
                        go_wp2
                        repeat (go_quiet (fail); try go_wp2)
                        go_roundg k2
                        case measure => have := HJ4.out; have := HK2.out; omega
                        case rel => exact ⟨(wrap64 (x8_2 + 1)), (by first | rfl | (simp; done) | (simp [*]; done)), H', ⟨by have := HJ4.out; have := HK2.out; omega⟩, ⟨by (with_reducible repeat (first | apply Kd.R_alloc | apply Kd.R_drewN | apply Kd.R_drew)); exact HO_0.out⟩, ⟨by (with_reducible repeat (first | apply Kd.S_alloc | apply Kd.S_drewN | apply Kd.S_drew)); exact HO_6.out⟩, ⟨by (with_reducible repeat (first | refine blk_drewN ?_ _ | refine blk_drew ?_ | refine blk_alloc ?_ _)); exact BK124.out⟩, ⟨by repeat (first | (with_reducible first | exact HB.out | apply below_alloc | apply pw_below_drewN | apply below_drew1 | refine below_set ?_ GE124.out) | exact HB.out)⟩⟩
                      · rw [if_neg c20] at H
                        have c20b0 : ((rd t130 x8_2) == (rd l1 x8_2)) = false := beq_eq_false_iff_ne.mpr c20
                        have c20b1 : ((rd t130 x8_2) != (rd l1 x8_2)) = true := bne_iff_ne.mpr c20
                        have H' := Aside0.mk H
                        clear H
                        obtain ⟨Ao22, co22, eo22⟩ := Kd.R_slice HO_0.out
                        subst eo22
                        have p133 : 0 ≤ (x8_2 : Int) := of_decide_eq_true (by first | (with_reducible assumption) | assumption)
                        have q133 : x8_2 < (t130.length : Int) := of_decide_eq_true (by first | (with_reducible assumption) | assumption)
                        obtain ⟨ad133, e133, hx133_0⟩ := Kd.at_int (Kd.R_reads' HO_0.out).2.2 x8_2 p133 q133
                        cases e133
                        replace p133 := eq_true p133
                        replace q133 := eq_true q133
                        have p134 : 0 ≤ (x8_2 : Int) := of_decide_eq_true (by first | (with_reducible assumption) | assumption)
                        have q134 : x8_2 < (l1.length : Int) := of_decide_eq_true (by first | (with_reducible assumption) | assumption)
                        obtain ⟨ad134, e134, hx134_0⟩ := Kd.at_int HR1.out x8_2 p134 q134
                        cases e134
                        replace hx134_0 := (HB.out.cell (World.block_lt_of_cell? w _ hx134_0)).trans hx134_0
                        replace p134 := eq_true p134
                        replace q134 := eq_true q134
                        go_wp2
                        repeat (go_quiet (fail); try go_wp2)
                        go_meet
                        case rel => exact ⟨_, (x8_2), (by first | rfl | (simp; done) | (simp [*]; done)), H', ⟨by have := HJ4.out; have := HK2.out; first | omega | exact Nat.le_refl _⟩, ⟨by (with_reducible repeat (first | apply Kd.R_alloc | apply Kd.R_drewN | apply Kd.R_drew)); exact HO_0.out⟩, ⟨by (with_reducible repeat (first | apply Kd.S_alloc | apply Kd.S_drewN | apply Kd.S_drew)); exact HO_6.out⟩, ⟨by (with_reducible repeat (first | refine blk_drewN ?_ _ | refine blk_drew ?_ | refine blk_alloc ?_ _)); exact BK124.out⟩, ⟨by repeat (first | (with_reducible first | exact HB.out | apply below_alloc | apply pw_below_drewN | apply below_drew1 | refine below_set ?_ GE124.out) | exact HB.out)⟩⟩
                    · rw [if_neg c19] at H
                      exact absurd H (by simp)
                  · rw [if_neg c18] at H
                    exact absurd H (by simp)
                · rw [if_neg c17] at H
                  exact absurd H (by simp)
              · rw [if_neg c16] at H
                have c16b0 : decide (x8_2 < (l1.length : Int)) = false := decide_eq_false c16
                clear c16
                (first | rw [c16b0] | (simp only [i64_w, i32_w]; rw [c16b0]) | skip)
                have H' := Aside0.mk H
                clear H
                go_wp2
                repeat (go_quiet (fail); try go_wp2)
                go_meet
                case rel => exact ⟨_, (x8_2), (by first | rfl | (simp; done) | (simp [*]; done)), H', ⟨by have := HJ4.out; have := HK2.out; first | omega | exact Nat.le_refl _⟩, ⟨by (with_reducible repeat (first | apply Kd.R_alloc | apply Kd.R_drewN | apply Kd.R_drew)); exact HO_0.out⟩, ⟨by (with_reducible repeat (first | apply Kd.S_alloc | apply Kd.S_drewN | apply Kd.S_drew)); exact HO_6.out⟩, ⟨by (with_reducible repeat (first | refine blk_drewN ?_ _ | refine blk_drew ?_ | refine blk_alloc ?_ _)); exact BK124.out⟩, ⟨by repeat (first | (with_reducible first | exact HB.out | apply below_alloc | apply pw_below_drewN | apply below_drew1 | refine below_set ?_ GE124.out) | exact HB.out)⟩⟩
        case rest =>
          clear HC14
          try clear c1
          try clear p1
          try clear q1
          try clear hx1
          try clear c2
          try clear p2
          try clear p6
          try clear c9
          try clear c9b0
          try clear c9b1
          try clear c9b2
          try clear c10
          try clear q12
          try clear p13
          try clear q13
          try clear hx13
          try clear c16
          try clear c16b0
          try clear c17
          try clear c17b0
          try clear c18
          try clear c18b0
          try clear c19
          try clear c19b0
          try clear c20
          try clear c20b0
          try clear c20b1
          try clear hcz11_0
          try clear hcz11_1
          try clear hcz11_2
          try clear hcz11_3
          try clear hcz11_4
          try clear hcz11_5
          try clear hcz7_0
          try clear hcz7_1
          try clear hcz7_2
          try clear hcz7_3
          try clear hcz7_4
          try clear hcz7_5
          try clear hfz11_0
          try clear hfz11_1
          try clear hfz11_2
          try clear hfz11_3
          try clear hfz11_4
          try clear hfz11_5
          try clear hfz7_0
          try clear hfz7_1
          try clear hfz7_2
          try clear hfz7_3
          try clear hfz7_4
          try clear hfz7_5
          try clear hx133_0
          try clear hx134_0
          try clear p133
          try clear p134
          try clear p2
          try clear q1
          try clear q12
          try clear q126
          try clear q133
          try clear q134
          obtain ⟨kq, x8_13, rfl, HA, HJ13, HO_0, HO_6, BK124, HB⟩ := hcut
          cases kq with
          | zero => exact absurd HA.out (by simp [fold_Change.j2])
          | succ kj13 =>
            have H := HA.out
            clear HA
            simp only [fold_Change.j2] at H
            have H' := Aside0.mk H
            clear H
            go_wp2
            repeat (go_quiet (fail); try go_wp2)
            go_loopg [9] kj13 (fun kq v9 w' => ∃ (x9_3 : Int), v9 = .int .i64 x9_3 ∧ Aside0 (fold_Change.l1 kq t130 l1 a2 x6_4 x8_13 x9_3 = some r) ∧ Aside0 (kq ≤ kj13) ∧ Aside0 (Kd.R (Kd.int .u8) 5 w' w.heap.size (fun _ => True) v131 t130) ∧ Aside0 (Kd.S k50 50 w' w.heap.size (fun k_ => some k_ ≠ (v131 : Value).ownBlock ∧ k_ ≠ gb124) u6 x6_4) ∧ Aside0 (w'.heap[gb124]? = some (.cells #[.int .i64 2, .int .i64 a2, .int .i64 (l1.length : Int), (.slice none 0 0), .string (⟨#[]⟩ : ByteArray), .int .i64 0] 50 (0, 0))) ∧ Aside0 (Below w.heap.size w w'))
            case atStart => exact ⟨((l1.length : Int)), (by first | rfl | (simp; done) | (simp [*]; done)), H', ⟨Nat.le_refl _⟩, ⟨by (with_reducible repeat (first | apply Kd.R_alloc | apply Kd.R_drewN | apply Kd.R_drew)); exact HO_0.out⟩, ⟨by (with_reducible repeat (first | apply Kd.S_alloc | apply Kd.S_drewN | apply Kd.S_drew)); exact HO_6.out⟩, ⟨by (with_reducible repeat (first | refine blk_drewN ?_ _ | refine blk_drew ?_ | refine blk_alloc ?_ _)); exact BK124.out⟩, ⟨by repeat (first | (with_reducible first | exact HB.out | apply below_alloc | apply pw_below_drewN | apply below_drew1 | refine below_set ?_ GE124.out) | exact HB.out)⟩⟩
            case round =>
              clear H'
              try clear c1
              try clear p1
              try clear q1
              try clear hx1
              try clear c2
              try clear p2
              try clear p6
              try clear c9
              try clear c9b0
              try clear c9b1
              try clear c9b2
              try clear c10
              try clear q12
              try clear p13
              try clear q13
              try clear hx13
              try clear c16
              try clear c16b0
              try clear c17
              try clear c17b0
              try clear c18
              try clear c18b0
              try clear c19
              try clear c19b0
              try clear c20
              try clear c20b0
              try clear c20b1
              try clear hcz11_0
              try clear hcz11_1
              try clear hcz11_2
              try clear hcz11_3
              try clear hcz11_4
              try clear hcz11_5
              try clear hcz7_0
              try clear hcz7_1
              try clear hcz7_2
              try clear hcz7_3
              try clear hcz7_4
              try clear hcz7_5
              try clear hfz11_0
              try clear hfz11_1
              try clear hfz11_2
              try clear hfz11_3
              try clear hfz11_4
              try clear hfz11_5
              try clear hfz7_0
              try clear hfz7_1
              try clear hfz7_2
              try clear hfz7_3
              try clear hfz7_4
              try clear hfz7_5
              try clear hx133_0
              try clear hx134_0
              try clear p1
              try clear p13
              try clear p133
              try clear p134
              try clear p2
              try clear p6
              try clear q1
              try clear q12
              try clear q126
              try clear q13
              try clear q133
              try clear q134
              obtain ⟨x9_3, rfl, HA, HK3, HO_0, HO_6, BK124, HB⟩ := hrel
              cases gk with
              | zero => exact absurd HA.out (by simp [fold_Change.l1])
              | succ k3 =>
                have H := HA.out
                clear HA
                simp only [fold_Change.l1] at H
                by_cases c23 : x8_13 < x9_3
                · rw [if_pos c23] at H
                  have c23b0 : decide (x8_13 < x9_3) = true := decide_eq_true c23
                  clear c23
                  obtain ⟨ji24, hji24⟩ : ∃ j_ : Int, (wrap64 (x9_3 - 1)) = j_ := ⟨_, rfl⟩
                  replace H : (if 0 ≤ (ji24) then (if (ji24) < (t130.length : Int) then (if (ji24) < (l1.length : Int) then (if (rd t130 (ji24)) = (rd l1 (ji24)) then (fold_Change.l1 k3 t130 l1 a2 x6_4 x8_13 ji24) else (if 0 ≤ x8_13 then (if x8_13 ≤ x9_3 then (if x9_3 ≤ (l1.length : Int) then ((slices_Clone_byte_byte.f ((l1.take (x9_3 : Int).toNat).drop (x8_13 : Int).toNat)).bind fun t138 => (if x6_4.length < 1954687338268 then (some (x6_4 ++ [(⟨1, a2, x8_13, t138, (⟨#[]⟩ : ByteArray), 0⟩ : S50)])) else (none))) else (none)) else (none)) else (none))) else (none)) else (none)) else (none)) = some r := by first | (rw [hji24] at H; exact H) | (simp only [hji24] at H ⊢; exact H)
                  have hji24w : (IntKind.i64.wrap (x9_3 - 1)) = ji24 := (i64_w _).trans hji24
                  by_cases c25 : 0 ≤ (ji24)
                  · rw [if_pos c25] at H
                    have c25b0 : decide (0 ≤ (ji24)) = true := decide_eq_true c25
                    clear c25
                    by_cases c26 : (ji24) < (t130.length : Int)
                    · rw [if_pos c26] at H
                      have c26b0 : decide ((ji24) < (t130.length : Int)) = true := decide_eq_true c26
                      clear c26
                      by_cases c27 : (ji24) < (l1.length : Int)
                      · rw [if_pos c27] at H
                        have c27b0 : decide ((ji24) < (l1.length : Int)) = true := decide_eq_true c27
                        clear c27
                        by_cases c28 : (rd t130 (ji24)) = (rd l1 (ji24))
                        · rw [if_pos c28] at H
                          have c28b0 : ((rd t130 (ji24)) == (rd l1 (ji24))) = true := beq_iff_eq.mpr c28
                          have c28b1 : ((rd t130 (ji24)) != (rd l1 (ji24))) = false := bne_eq_false_iff_eq.mpr c28
                          clear c28
                          have H' := Aside0.mk H
                          clear H
                          obtain ⟨Ao29, co29, eo29⟩ := Kd.R_slice HO_0.out
                          subst eo29
                          have p135 : 0 ≤ ((ji24) : Int) := of_decide_eq_true (by first | (with_reducible assumption) | assumption)
                          have q135 : (ji24) < (t130.length : Int) := of_decide_eq_true (by first | (with_reducible assumption) | assumption)
                          obtain ⟨ad135, e135, hx135_0⟩ := Kd.at_int (Kd.R_reads' HO_0.out).2.2 (ji24) p135 q135
                          cases e135
                          replace p135 := eq_true p135
                          replace q135 := eq_true q135
                          have p136 : 0 ≤ ((ji24) : Int) := of_decide_eq_true (by first | (with_reducible assumption) | assumption)
                          have q136 : (ji24) < (l1.length : Int) := of_decide_eq_true (by first | (with_reducible assumption) | assumption)
                          obtain ⟨ad136, e136, hx136_0⟩ := Kd.at_int HR1.out (ji24) p136 q136
                          cases e136
                          replace hx136_0 := (HB.out.cell (World.block_lt_of_cell? w _ hx136_0)).trans hx136_0
                          replace p136 := eq_true p136
                          replace q136 := eq_true q136
                          go_wp2
                          repeat (go_quiet (fail); try go_wp2)
                          go_roundg k3
                          case measure => have := HJ4.out; have := HJ13.out; have := HK3.out; omega
                          case rel => exact ⟨(ji24), (by first | rfl | (simp; done) | (simp only [← hji24] <;> (first | rfl | simp)) | (simp [*]; done)), H', ⟨by have := HJ4.out; have := HJ13.out; have := HK3.out; omega⟩, ⟨by (with_reducible repeat (first | apply Kd.R_alloc | apply Kd.R_drewN | apply Kd.R_drew)); exact HO_0.out⟩, ⟨by (with_reducible repeat (first | apply Kd.S_alloc | apply Kd.S_drewN | apply Kd.S_drew)); exact HO_6.out⟩, ⟨by (with_reducible repeat (first | refine blk_drewN ?_ _ | refine blk_drew ?_ | refine blk_alloc ?_ _)); exact BK124.out⟩, ⟨by repeat (first | (with_reducible first | exact HB.out | apply below_alloc | apply pw_below_drewN | apply below_drew1 | refine below_set ?_ GE124.out) | exact HB.out)⟩⟩
                        · rw [if_neg c28] at H
                          have c28b0 : ((rd t130 (ji24)) == (rd l1 (ji24))) = false := beq_eq_false_iff_ne.mpr c28
                          have c28b1 : ((rd t130 (ji24)) != (rd l1 (ji24))) = true := bne_iff_ne.mpr c28
                          by_cases c30 : 0 ≤ x8_13
                          · rw [if_pos c30] at H
                            have c30b0 := eq_true c30
                            have c30b1 : decide (0 ≤ x8_13) = true := decide_eq_true c30
                            clear c30
                            by_cases c31 : x8_13 ≤ x9_3
                            · rw [if_pos c31] at H
                              have c31b0 := eq_true c31
                              have c31b1 : decide (x8_13 ≤ x9_3) = true := decide_eq_true c31
                              clear c31
                              by_cases c32 : x9_3 ≤ (l1.length : Int)
                              · rw [if_pos c32] at H
                                have c32b0 := eq_true c32
                                have c32b1 : decide (x9_3 ≤ (l1.length : Int)) = true := decide_eq_true c32
                                clear c32
                                replace H := Option.bind_eq_some_iff.mp H
                                obtain ⟨t138, A330, H⟩ := H
                                replace H : (if x6_4.length < 1954687338268 then (some (x6_4 ++ [(⟨1, a2, x8_13, t138, (⟨#[]⟩ : ByteArray), 0⟩ : S50)])) else (none)) = some r := H
                                have A33 := Aside0.mk A330
                                clear A330
                                by_cases c34 : x6_4.length < 1954687338268
                                · rw [if_pos c34] at H
                                  have LMc34 := Aside0.mk c34
                                  clear c34
                                  obtain ⟨y141, hy141⟩ : ∃ y_ : List (S50), y_ = (x6_4 ++ [(⟨1, a2, x8_13, t138, (⟨#[]⟩ : ByteArray), 0⟩ : S50)]) := ⟨_, rfl⟩
                                  replace H : (some y141) = some r := by first | (rw [hy141]; with_reducible exact H) | (have H2_ := (Option.bind_some _ _).symm.trans H; rw [hy141]; with_reducible exact H2_) | (have H2_ := (Option.bind_some _ _).symm.trans H; with_reducible exact H2_) | with_reducible exact H | (rw [hy141]; exact H) | exact H
                                  have Ny141 := Aside0.mk hy141
                                  clear hy141
                                  obtain rfl := Option.some.inj H
                                  obtain ⟨Ao35, co35, eo35⟩ := Kd.R_slice HO_0.out
                                  subst eo35
                                  have p135 : 0 ≤ ((ji24) : Int) := of_decide_eq_true (by first | (with_reducible assumption) | assumption)
                                  have q135 : (ji24) < (t130.length : Int) := of_decide_eq_true (by first | (with_reducible assumption) | assumption)
                                  obtain ⟨ad135, e135, hx135_0⟩ := Kd.at_int (Kd.R_reads' HO_0.out).2.2 (ji24) p135 q135
                                  cases e135
                                  replace p135 := eq_true p135
                                  replace q135 := eq_true q135
                                  have p136 : 0 ≤ ((ji24) : Int) := of_decide_eq_true (by first | (with_reducible assumption) | assumption)
                                  have q136 : (ji24) < (l1.length : Int) := of_decide_eq_true (by first | (with_reducible assumption) | assumption)
                                  obtain ⟨ad136, e136, hx136_0⟩ := Kd.at_int HR1.out (ji24) p136 q136
                                  cases e136
                                  replace hx136_0 := (HB.out.cell (World.block_lt_of_cell? w _ hx136_0)).trans hx136_0
                                  replace p136 := eq_true p136
                                  replace q136 := eq_true q136
                                  obtain ⟨i036, hi036, _, hsz36, _⟩ := info_parts info5
                                  obtain ⟨A36, hcut36, hA36, hC36⟩ := print_mid_of (P := Try.prog) (Value.int .u8) 0 30 5 .i64 .i64 Try.underlying30 hi036 hsz36 (some ad136) c1 l1 x8_13 x9_3 (of_decide_eq_true (by first | (with_reducible assumption) | assumption)) (by first | omega | exact of_decide_eq_true (by first | (with_reducible assumption) | assumption)) (of_decide_eq_true (by first | (with_reducible assumption) | assumption)) HC1.out
                                  have HR137 := Aside0.mk (Kd.C_of_reads (h1 := fun _ => rfl) (hA36 _ (Kd.reads_of_C HR1.out)))
                                  have HC137 := Aside0.mk hC36
                                  clear hA36 hC36 hi036 hsz36
                                  go_wp2_with (first | (go_at_call 48; (refine Go.Proofs.Ytacdocchcfbgcaa.HCopy.calls_len (n' := ((l1.take (x9_3 : Int).toNat).drop (x8_13 : Int).toNat).length) (by rw [List.length_drop, List.length_take, Nat.min_eq_left (by have := of_decide_eq_true (show decide (x9_3 ≤ (l1.length : Int)) = true by assumption); omega)]) ?_); (with_reducible refine (slices_Clone_byte_byte.calls _ _ ((l1.take (x9_3 : Int).toNat).drop (x8_13 : Int).toNat) t138 _ ?side1 ?side2 A33.out).mono ?_); (case side1 => repeat (first | exact (Kd.C_below HR137.out HB.out) | (with_reducible refine Kd.C_alloc ?_ _) | (with_reducible refine Kd.C_drewN ?_ _) | (with_reducible refine Kd.C_drew ?_))); (case side2 => exact HC137.out); rintro e w37 ⟨v139, rfl, ho0, hb⟩; have n0_ := Aside0.mk (Kd.R_elder' (by (with_reducible repeat (first | apply Kd.R_alloc | apply Kd.R_drewN | apply Kd.R_drew)); exact HO_0.out) (Kd.R_base ho0) hb); have n1_ := Aside0.mk (Kd.S_elder' (by (with_reducible repeat (first | apply Kd.S_alloc | apply Kd.S_drewN | apply Kd.S_drew)); exact HO_6.out) (Kd.R_base ho0) hb); have n2_ := Aside0.mk (Kd.R_lower (Kd.R_new' ho0 (Kd.R_lt (by (with_reducible repeat (first | apply Kd.R_alloc | apply Kd.R_drewN | apply Kd.R_drew)); exact HO_0.out))) (below_size (by repeat (first | (with_reducible first | exact HB.out | apply below_alloc | apply pw_below_drewN | apply below_drew1 | refine below_set ?_ GE124.out) | exact HB.out)))); have n3_ := Aside0.mk (blk_below (g := gb124) (o := .cells #[.int .i64 2, .int .i64 a2, .int .i64 (l1.length : Int), .slice none 0 0, .string (⟨#[]⟩ : ByteArray), .int .i64 0] 50 (0, 0)) (by (with_reducible repeat (first | refine blk_drewN ?_ _ | refine blk_drew ?_ | refine blk_alloc ?_ _)); exact BK124.out) hb); have n4_ := Aside0.mk (below_step (by repeat (first | (with_reducible first | exact HB.out | apply below_alloc | apply pw_below_drewN | apply below_drew1 | refine below_set ?_ GE124.out) | exact HB.out)) hb); clear HO_0; clear HO_6; clear BK124; clear HB; have HO_0 := n0_; have HO_6 := n1_; have HO140 := n2_; have BK124 := n3_; have HB := n4_; clear n0_ n1_ n2_ n3_ n4_; (try clear hb); (try clear hb2); (try clear hk); (try clear hi); (try clear ho0); obtain ⟨Ao38, co38, eo38⟩ := Kd.R_slice HO140.out; subst eo38) | ((with_reducible refine gate_builtin (b := .append) (xs := #[.tmp 69, .tmp 78]) rfl ?_); at_builtin; refine Kd.S_append k50 (w0 := w) w.heap.size rfl (.tmp 69) (.tmp 78) 27 50 (.agg #[(.int .i64 0), (.int .i64 0), (.int .i64 0), (.slice none 0 0), (.string ⟨#[]⟩), (.int .i64 0)]) 72 rfl Try.underlying27 info50 rfl (by decide) (by omega) u6 x6_4 (⟨1, a2, x8_13, t138, (⟨#[]⟩ : ByteArray), 0⟩ : S50) [.int .i64 1, .int .i64 a2, .int .i64 x8_13, .slice Ao38 t138.length co38, .string (⟨#[]⟩ : ByteArray), .int .i64 0] (fun k_ => some k_ ≠ (.slice (some ad135) t130.length co35 : Value).ownBlock ∧ k_ ≠ gb124) (fun k_ => some k_ = (.slice Ao38 t138.length co38 : Value).ownBlock) rfl rfl ?aP (fun k_ hk_ => ((Kd.R_mono (ok' := fun k_ => ((fun k_ => some k_ ≠ (.slice (some ad135) t130.length co35 : Value).ownBlock ∧ k_ ≠ gb124)) k_ ∧ some k_ ≠ (u6 : Value).ownBlock) (Kd.R_types (Kd.R_apart' (HO140.out) (Kd.S_typed HO_6.out) (by decide)) BK124.out (by decide)) (fun k_ hk => ⟨⟨hk.1.1.2, hk.2⟩, hk.1.2⟩))).1 k_ hk_.symm) ?aF ?aO ?aB ?aS ?aL ?_; (case aP => exact k50_mkM _ _ _ (⟨1, a2, x8_13, t138, (⟨#[]⟩ : ByteArray), 0⟩ : S50) (Kd.R_mono (Kd.R_tight rfl (Kd.R_mono (ok' := fun k_ => ((fun k_ => some k_ ≠ (.slice (some ad135) t130.length co35 : Value).ownBlock ∧ k_ ≠ gb124)) k_ ∧ some k_ ≠ (u6 : Value).ownBlock) (Kd.R_types (Kd.R_apart' (HO140.out) (Kd.S_typed HO_6.out) (by decide)) BK124.out (by decide)) (fun k_ hk => ⟨⟨hk.1.1.2, hk.2⟩, hk.1.2⟩))) (fun _ h_ => h_))); (case aB => exact (by repeat (first | (with_reducible first | exact HB.out | apply below_alloc | apply pw_below_drewN | apply below_drew1 | refine below_set ?_ GE124.out) | exact HB.out))); (case aF => exact (fun k_ hk => ⟨Kd.fresh' (Kd.R_lt (by (with_reducible repeat (first | apply Kd.R_alloc | apply Kd.R_drewN | apply Kd.R_drew)); exact HO_0.out)) k_ hk, Kd.freshB (g := gb124) (o := .cells #[.int .i64 2, .int .i64 a2, .int .i64 (l1.length : Int), .slice none 0 0, .string (⟨#[]⟩ : ByteArray), .int .i64 0] 50 (0, 0)) (by (with_reducible repeat (first | refine blk_drewN ?_ _ | refine blk_drew ?_ | refine blk_alloc ?_ _)); exact BK124.out) k_ hk⟩)); (case aO => exact (by (with_reducible repeat (first | apply Kd.S_alloc | apply Kd.S_drewN | apply Kd.S_drew)); exact Kd.S_mono HO_6.out (fun k_ hk => ⟨⟨hk.1.1, hk.1.2⟩, fun e_ => hk.2 e_⟩))); (case aS => exact (below_size (by repeat (first | (with_reducible first | exact HB.out | apply below_alloc | apply pw_below_drewN | apply below_drew1 | refine below_set ?_ GE124.out) | exact HB.out)))); (case aL => have := LMc34.out; omega); intro v142 w39 ho hb hg hat; rw [← Ny141.out] at ho; have n0_ := Aside0.mk (Kd.R_over' (by (with_reducible repeat (first | apply Kd.R_alloc | apply Kd.R_drewN | apply Kd.R_drew)); exact HO_0.out) (Kd.S_typed (by (with_reducible repeat (first | apply Kd.S_alloc | apply Kd.S_drewN | apply Kd.S_drew)); exact HO_6.out)) (by decide) hg); have n1_ := Aside0.mk (blk_grown (g := gb124) (o := .cells #[.int .i64 2, .int .i64 a2, .int .i64 (l1.length : Int), .slice none 0 0, .string (⟨#[]⟩ : ByteArray), .int .i64 0] 50 (0, 0)) (by (with_reducible repeat (first | refine blk_drewN ?_ _ | refine blk_drew ?_ | refine blk_alloc ?_ _)); exact BK124.out) hg (Kd.S_away HO_6.out (fun _ hk => hk.1.2))); have n2_ := Aside0.mk (hb); have n3_ := Aside0.mk (ho); clear HO_0; clear BK124; clear HB; clear HO_6; clear HO140; have HO_0 := n0_; have BK124 := n1_; have HB := n2_; have HO143 := n3_; clear n0_ n1_ n2_ n3_; clear ho hb hg hat))
                                  repeat (go_quiet (first | (go_at_call 48; (refine Go.Proofs.Ytacdocchcfbgcaa.HCopy.calls_len (n' := ((l1.take (x9_3 : Int).toNat).drop (x8_13 : Int).toNat).length) (by rw [List.length_drop, List.length_take, Nat.min_eq_left (by have := of_decide_eq_true (show decide (x9_3 ≤ (l1.length : Int)) = true by assumption); omega)]) ?_); (with_reducible refine (slices_Clone_byte_byte.calls _ _ ((l1.take (x9_3 : Int).toNat).drop (x8_13 : Int).toNat) t138 _ ?side1 ?side2 A33.out).mono ?_); (case side1 => repeat (first | exact (Kd.C_below HR137.out HB.out) | (with_reducible refine Kd.C_alloc ?_ _) | (with_reducible refine Kd.C_drewN ?_ _) | (with_reducible refine Kd.C_drew ?_))); (case side2 => exact HC137.out); rintro e w37 ⟨v139, rfl, ho0, hb⟩; have n0_ := Aside0.mk (Kd.R_elder' (by (with_reducible repeat (first | apply Kd.R_alloc | apply Kd.R_drewN | apply Kd.R_drew)); exact HO_0.out) (Kd.R_base ho0) hb); have n1_ := Aside0.mk (Kd.S_elder' (by (with_reducible repeat (first | apply Kd.S_alloc | apply Kd.S_drewN | apply Kd.S_drew)); exact HO_6.out) (Kd.R_base ho0) hb); have n2_ := Aside0.mk (Kd.R_lower (Kd.R_new' ho0 (Kd.R_lt (by (with_reducible repeat (first | apply Kd.R_alloc | apply Kd.R_drewN | apply Kd.R_drew)); exact HO_0.out))) (below_size (by repeat (first | (with_reducible first | exact HB.out | apply below_alloc | apply pw_below_drewN | apply below_drew1 | refine below_set ?_ GE124.out) | exact HB.out)))); have n3_ := Aside0.mk (blk_below (g := gb124) (o := .cells #[.int .i64 2, .int .i64 a2, .int .i64 (l1.length : Int), .slice none 0 0, .string (⟨#[]⟩ : ByteArray), .int .i64 0] 50 (0, 0)) (by (with_reducible repeat (first | refine blk_drewN ?_ _ | refine blk_drew ?_ | refine blk_alloc ?_ _)); exact BK124.out) hb); have n4_ := Aside0.mk (below_step (by repeat (first | (with_reducible first | exact HB.out | apply below_alloc | apply pw_below_drewN | apply below_drew1 | refine below_set ?_ GE124.out) | exact HB.out)) hb); clear HO_0; clear HO_6; clear BK124; clear HB; have HO_0 := n0_; have HO_6 := n1_; have HO140 := n2_; have BK124 := n3_; have HB := n4_; clear n0_ n1_ n2_ n3_ n4_; (try clear hb); (try clear hb2); (try clear hk); (try clear hi); (try clear ho0); obtain ⟨Ao38, co38, eo38⟩ := Kd.R_slice HO140.out; subst eo38) | ((with_reducible refine gate_builtin (b := .append) (xs := #[.tmp 69, .tmp 78]) rfl ?_); at_builtin; refine Kd.S_append k50 (w0 := w) w.heap.size rfl (.tmp 69) (.tmp 78) 27 50 (.agg #[(.int .i64 0), (.int .i64 0), (.int .i64 0), (.slice none 0 0), (.string ⟨#[]⟩), (.int .i64 0)]) 72 rfl Try.underlying27 info50 rfl (by decide) (by omega) u6 x6_4 (⟨1, a2, x8_13, t138, (⟨#[]⟩ : ByteArray), 0⟩ : S50) [.int .i64 1, .int .i64 a2, .int .i64 x8_13, .slice Ao38 t138.length co38, .string (⟨#[]⟩ : ByteArray), .int .i64 0] (fun k_ => some k_ ≠ (.slice (some ad135) t130.length co35 : Value).ownBlock ∧ k_ ≠ gb124) (fun k_ => some k_ = (.slice Ao38 t138.length co38 : Value).ownBlock) rfl rfl ?aP (fun k_ hk_ => ((Kd.R_mono (ok' := fun k_ => ((fun k_ => some k_ ≠ (.slice (some ad135) t130.length co35 : Value).ownBlock ∧ k_ ≠ gb124)) k_ ∧ some k_ ≠ (u6 : Value).ownBlock) (Kd.R_types (Kd.R_apart' (HO140.out) (Kd.S_typed HO_6.out) (by decide)) BK124.out (by decide)) (fun k_ hk => ⟨⟨hk.1.1.2, hk.2⟩, hk.1.2⟩))).1 k_ hk_.symm) ?aF ?aO ?aB ?aS ?aL ?_; (case aP => exact k50_mkM _ _ _ (⟨1, a2, x8_13, t138, (⟨#[]⟩ : ByteArray), 0⟩ : S50) (Kd.R_mono (Kd.R_tight rfl (Kd.R_mono (ok' := fun k_ => ((fun k_ => some k_ ≠ (.slice (some ad135) t130.length co35 : Value).ownBlock ∧ k_ ≠ gb124)) k_ ∧ some k_ ≠ (u6 : Value).ownBlock) (Kd.R_types (Kd.R_apart' (HO140.out) (Kd.S_typed HO_6.out) (by decide)) BK124.out (by decide)) (fun k_ hk => ⟨⟨hk.1.1.2, hk.2⟩, hk.1.2⟩))) (fun _ h_ => h_))); (case aB => exact (by repeat (first | (with_reducible first | exact HB.out | apply below_alloc | apply pw_below_drewN | apply below_drew1 | refine below_set ?_ GE124.out) | exact HB.out))); (case aF => exact (fun k_ hk => ⟨Kd.fresh' (Kd.R_lt (by (with_reducible repeat (first | apply Kd.R_alloc | apply Kd.R_drewN | apply Kd.R_drew)); exact HO_0.out)) k_ hk, Kd.freshB (g := gb124) (o := .cells #[.int .i64 2, .int .i64 a2, .int .i64 (l1.length : Int), .slice none 0 0, .string (⟨#[]⟩ : ByteArray), .int .i64 0] 50 (0, 0)) (by (with_reducible repeat (first | refine blk_drewN ?_ _ | refine blk_drew ?_ | refine blk_alloc ?_ _)); exact BK124.out) k_ hk⟩)); (case aO => exact (by (with_reducible repeat (first | apply Kd.S_alloc | apply Kd.S_drewN | apply Kd.S_drew)); exact Kd.S_mono HO_6.out (fun k_ hk => ⟨⟨hk.1.1, hk.1.2⟩, fun e_ => hk.2 e_⟩))); (case aS => exact (below_size (by repeat (first | (with_reducible first | exact HB.out | apply below_alloc | apply pw_below_drewN | apply below_drew1 | refine below_set ?_ GE124.out) | exact HB.out)))); (case aL => have := LMc34.out; omega); intro v142 w39 ho hb hg hat; rw [← Ny141.out] at ho; have n0_ := Aside0.mk (Kd.R_over' (by (with_reducible repeat (first | apply Kd.R_alloc | apply Kd.R_drewN | apply Kd.R_drew)); exact HO_0.out) (Kd.S_typed (by (with_reducible repeat (first | apply Kd.S_alloc | apply Kd.S_drewN | apply Kd.S_drew)); exact HO_6.out)) (by decide) hg); have n1_ := Aside0.mk (blk_grown (g := gb124) (o := .cells #[.int .i64 2, .int .i64 a2, .int .i64 (l1.length : Int), .slice none 0 0, .string (⟨#[]⟩ : ByteArray), .int .i64 0] 50 (0, 0)) (by (with_reducible repeat (first | refine blk_drewN ?_ _ | refine blk_drew ?_ | refine blk_alloc ?_ _)); exact BK124.out) hg (Kd.S_away HO_6.out (fun _ hk => hk.1.2))); have n2_ := Aside0.mk (hb); have n3_ := Aside0.mk (ho); clear HO_0; clear BK124; clear HB; clear HO_6; clear HO140; have HO_0 := n0_; have BK124 := n1_; have HB := n2_; have HO143 := n3_; clear n0_ n1_ n2_ n3_; clear ho hb hg hat)); try go_wp2_with (first | (go_at_call 48; (refine Go.Proofs.Ytacdocchcfbgcaa.HCopy.calls_len (n' := ((l1.take (x9_3 : Int).toNat).drop (x8_13 : Int).toNat).length) (by rw [List.length_drop, List.length_take, Nat.min_eq_left (by have := of_decide_eq_true (show decide (x9_3 ≤ (l1.length : Int)) = true by assumption); omega)]) ?_); (with_reducible refine (slices_Clone_byte_byte.calls _ _ ((l1.take (x9_3 : Int).toNat).drop (x8_13 : Int).toNat) t138 _ ?side1 ?side2 A33.out).mono ?_); (case side1 => repeat (first | exact (Kd.C_below HR137.out HB.out) | (with_reducible refine Kd.C_alloc ?_ _) | (with_reducible refine Kd.C_drewN ?_ _) | (with_reducible refine Kd.C_drew ?_))); (case side2 => exact HC137.out); rintro e w37 ⟨v139, rfl, ho0, hb⟩; have n0_ := Aside0.mk (Kd.R_elder' (by (with_reducible repeat (first | apply Kd.R_alloc | apply Kd.R_drewN | apply Kd.R_drew)); exact HO_0.out) (Kd.R_base ho0) hb); have n1_ := Aside0.mk (Kd.S_elder' (by (with_reducible repeat (first | apply Kd.S_alloc | apply Kd.S_drewN | apply Kd.S_drew)); exact HO_6.out) (Kd.R_base ho0) hb); have n2_ := Aside0.mk (Kd.R_lower (Kd.R_new' ho0 (Kd.R_lt (by (with_reducible repeat (first | apply Kd.R_alloc | apply Kd.R_drewN | apply Kd.R_drew)); exact HO_0.out))) (below_size (by repeat (first | (with_reducible first | exact HB.out | apply below_alloc | apply pw_below_drewN | apply below_drew1 | refine below_set ?_ GE124.out) | exact HB.out)))); have n3_ := Aside0.mk (blk_below (g := gb124) (o := .cells #[.int .i64 2, .int .i64 a2, .int .i64 (l1.length : Int), .slice none 0 0, .string (⟨#[]⟩ : ByteArray), .int .i64 0] 50 (0, 0)) (by (with_reducible repeat (first | refine blk_drewN ?_ _ | refine blk_drew ?_ | refine blk_alloc ?_ _)); exact BK124.out) hb); have n4_ := Aside0.mk (below_step (by repeat (first | (with_reducible first | exact HB.out | apply below_alloc | apply pw_below_drewN | apply below_drew1 | refine below_set ?_ GE124.out) | exact HB.out)) hb); clear HO_0; clear HO_6; clear BK124; clear HB; have HO_0 := n0_; have HO_6 := n1_; have HO140 := n2_; have BK124 := n3_; have HB := n4_; clear n0_ n1_ n2_ n3_ n4_; (try clear hb); (try clear hb2); (try clear hk); (try clear hi); (try clear ho0); obtain ⟨Ao38, co38, eo38⟩ := Kd.R_slice HO140.out; subst eo38) | ((with_reducible refine gate_builtin (b := .append) (xs := #[.tmp 69, .tmp 78]) rfl ?_); at_builtin; refine Kd.S_append k50 (w0 := w) w.heap.size rfl (.tmp 69) (.tmp 78) 27 50 (.agg #[(.int .i64 0), (.int .i64 0), (.int .i64 0), (.slice none 0 0), (.string ⟨#[]⟩), (.int .i64 0)]) 72 rfl Try.underlying27 info50 rfl (by decide) (by omega) u6 x6_4 (⟨1, a2, x8_13, t138, (⟨#[]⟩ : ByteArray), 0⟩ : S50) [.int .i64 1, .int .i64 a2, .int .i64 x8_13, .slice Ao38 t138.length co38, .string (⟨#[]⟩ : ByteArray), .int .i64 0] (fun k_ => some k_ ≠ (.slice (some ad135) t130.length co35 : Value).ownBlock ∧ k_ ≠ gb124) (fun k_ => some k_ = (.slice Ao38 t138.length co38 : Value).ownBlock) rfl rfl ?aP (fun k_ hk_ => ((Kd.R_mono (ok' := fun k_ => ((fun k_ => some k_ ≠ (.slice (some ad135) t130.length co35 : Value).ownBlock ∧ k_ ≠ gb124)) k_ ∧ some k_ ≠ (u6 : Value).ownBlock) (Kd.R_types (Kd.R_apart' (HO140.out) (Kd.S_typed HO_6.out) (by decide)) BK124.out (by decide)) (fun k_ hk => ⟨⟨hk.1.1.2, hk.2⟩, hk.1.2⟩))).1 k_ hk_.symm) ?aF ?aO ?aB ?aS ?aL ?_; (case aP => exact k50_mkM _ _ _ (⟨1, a2, x8_13, t138, (⟨#[]⟩ : ByteArray), 0⟩ : S50) (Kd.R_mono (Kd.R_tight rfl (Kd.R_mono (ok' := fun k_ => ((fun k_ => some k_ ≠ (.slice (some ad135) t130.length co35 : Value).ownBlock ∧ k_ ≠ gb124)) k_ ∧ some k_ ≠ (u6 : Value).ownBlock) (Kd.R_types (Kd.R_apart' (HO140.out) (Kd.S_typed HO_6.out) (by decide)) BK124.out (by decide)) (fun k_ hk => ⟨⟨hk.1.1.2, hk.2⟩, hk.1.2⟩))) (fun _ h_ => h_))); (case aB => exact (by repeat (first | (with_reducible first | exact HB.out | apply below_alloc | apply pw_below_drewN | apply below_drew1 | refine below_set ?_ GE124.out) | exact HB.out))); (case aF => exact (fun k_ hk => ⟨Kd.fresh' (Kd.R_lt (by (with_reducible repeat (first | apply Kd.R_alloc | apply Kd.R_drewN | apply Kd.R_drew)); exact HO_0.out)) k_ hk, Kd.freshB (g := gb124) (o := .cells #[.int .i64 2, .int .i64 a2, .int .i64 (l1.length : Int), .slice none 0 0, .string (⟨#[]⟩ : ByteArray), .int .i64 0] 50 (0, 0)) (by (with_reducible repeat (first | refine blk_drewN ?_ _ | refine blk_drew ?_ | refine blk_alloc ?_ _)); exact BK124.out) k_ hk⟩)); (case aO => exact (by (with_reducible repeat (first | apply Kd.S_alloc | apply Kd.S_drewN | apply Kd.S_drew)); exact Kd.S_mono HO_6.out (fun k_ hk => ⟨⟨hk.1.1, hk.1.2⟩, fun e_ => hk.2 e_⟩))); (case aS => exact (below_size (by repeat (first | (with_reducible first | exact HB.out | apply below_alloc | apply pw_below_drewN | apply below_drew1 | refine below_set ?_ GE124.out) | exact HB.out)))); (case aL => have := LMc34.out; omega); intro v142 w39 ho hb hg hat; rw [← Ny141.out] at ho; have n0_ := Aside0.mk (Kd.R_over' (by (with_reducible repeat (first | apply Kd.R_alloc | apply Kd.R_drewN | apply Kd.R_drew)); exact HO_0.out) (Kd.S_typed (by (with_reducible repeat (first | apply Kd.S_alloc | apply Kd.S_drewN | apply Kd.S_drew)); exact HO_6.out)) (by decide) hg); have n1_ := Aside0.mk (blk_grown (g := gb124) (o := .cells #[.int .i64 2, .int .i64 a2, .int .i64 (l1.length : Int), .slice none 0 0, .string (⟨#[]⟩ : ByteArray), .int .i64 0] 50 (0, 0)) (by (with_reducible repeat (first | refine blk_drewN ?_ _ | refine blk_drew ?_ | refine blk_alloc ?_ _)); exact BK124.out) hg (Kd.S_away HO_6.out (fun _ hk => hk.1.2))); have n2_ := Aside0.mk (hb); have n3_ := Aside0.mk (ho); clear HO_0; clear BK124; clear HB; clear HO_6; clear HO140; have HO_0 := n0_; have BK124 := n1_; have HB := n2_; have HO143 := n3_; clear n0_ n1_ n2_ n3_; clear ho hb hg hat)))
                                  go_ret
                                  exact ⟨_, by first | rfl | (simp [errW_none, errW_some] <;> rfl) | (simp only [← hji24]; first | rfl | (simp [errW_none, errW_some] <;> rfl)) | (simp [*, errW_none, errW_some] <;> rfl), by (with_reducible repeat (first | apply Kd.S_alloc | apply Kd.S_drewN | apply Kd.S_drew)); exact Kd.S_mono HO143.out (fun _ hk => trivial), by repeat (first | (with_reducible first | exact HB.out | apply below_alloc | apply pw_below_drewN | apply below_drew1 | refine below_set ?_ GE124.out) | exact HB.out)⟩
                                · rw [if_neg c34] at H
                                  exact absurd H (by simp)
                              · rw [if_neg c32] at H
                                exact absurd H (by simp)
                            · rw [if_neg c31] at H
                              exact absurd H (by simp)
                          · rw [if_neg c30] at H
                            exact absurd H (by simp)
                      · rw [if_neg c27] at H
                        exact absurd H (by simp)
                    · rw [if_neg c26] at H
                      exact absurd H (by simp)
                  · rw [if_neg c25] at H
                    exact absurd H (by simp)
                · rw [if_neg c23] at H
                  have c23b0 : decide (x8_13 < x9_3) = false := decide_eq_false c23
                  clear c23
                  obtain rfl := Option.some.inj H
                  go_wp2
                  repeat (go_quiet (fail); try go_wp2)
                  go_ret
                  exact ⟨_, by first | rfl | (simp [errW_none, errW_some] <;> rfl) | (simp [*, errW_none, errW_some] <;> rfl), by (with_reducible repeat (first | apply Kd.S_alloc | apply Kd.S_drewN | apply Kd.S_drew)); exact Kd.S_mono HO_6.out (fun _ hk => trivial), by repeat (first | (with_reducible first | exact HB.out | apply below_alloc | apply pw_below_drewN | apply below_drew1 | refine below_set ?_ GE124.out) | exact HB.out)⟩
  · have H1 : (some ([] : List (S50))) = some r := by rw [if_neg (show ¬ (some q126).isNone = true by simp)] at H; exact H
    clear H
    have H := H1
    clear H1
    try simp only [errW_none, errW_some]
    obtain rfl := Option.some.inj H
    go_enter Try.func18, Try.ntmps18
    go_wp2_with (first | ((with_reducible refine gate_dst (N := 7) rfl ?_); refine box_event ?hg (N := 7) ?hd (cs := #[.int .i64 0, .int .i64 0, .int .i64 0, .slice none 0 0, .string (⟨#[]⟩ : ByteArray), .int .i64 0]) (t := 50) ?hr ?_; (case hd => rfl); (case hg => rfl); (case hr => first | (go_simp; done) | (go_simp; rfl)); intro gb124 hg w40 hbox hb; have n0_ := Aside0.mk (below_step (by repeat (first | (with_reducible first | exact HB.out | apply below_alloc | apply pw_below_drewN | apply below_drew1) | exact HB.out)) hb); have n1_ := Aside0.mk (hbox); have n2_ := Aside0.mk ((by rw [hg]; exact (below_size (by repeat (first | (with_reducible first | exact HB.out | apply below_alloc | apply pw_below_drewN | apply below_drew1) | exact HB.out))) : w.heap.size ≤ gb124)); have n3_ := Aside0.mk ((by rw [hg]; exact (below_size (by repeat (first | (with_reducible first | exact HB.out | apply below_alloc | apply pw_below_drewN | apply below_drew1) | exact HB.out))) : w.heap.size ≤ gb124)); clear HB; have HB := n0_; have BK124 := n1_; have GW124 := n2_; have GE124 := n3_; clear n0_ n1_ n2_ n3_; clear hb hbox hg; have hcz41_0 : w40.cell? ⟨gb124, 0, none⟩ = some (.int .i64 0) := (blk_cell BK124.out 0).trans rfl; have hcz41_1 : w40.cell? ⟨gb124, 1, none⟩ = some (.int .i64 0) := (blk_cell BK124.out 1).trans rfl; have hcz41_2 : w40.cell? ⟨gb124, 2, none⟩ = some (.int .i64 0) := (blk_cell BK124.out 2).trans rfl; have hcz41_3 : w40.cell? ⟨gb124, 3, none⟩ = some (.slice none 0 0) := (blk_cell BK124.out 3).trans rfl; have hcz41_4 : w40.cell? ⟨gb124, 4, none⟩ = some (.string (⟨#[]⟩ : ByteArray)) := (blk_cell BK124.out 4).trans rfl; have hcz41_5 : w40.cell? ⟨gb124, 5, none⟩ = some (.int .i64 0) := (blk_cell BK124.out 5).trans rfl; have hfz41_0 := blk_frozen BK124.out 0; have hfz41_1 := blk_frozen BK124.out 1; have hfz41_2 := blk_frozen BK124.out 2; have hfz41_3 := blk_frozen BK124.out 3; have hfz41_4 := blk_frozen BK124.out 4; have hfz41_5 := blk_frozen BK124.out 5) | (go_at_call 46; (refine (entry_Check.calls k 2 a2 (l1.length : Int) _ _ ([] : List Int) (⟨#[]⟩ : ByteArray) 0 (some q126) _ ?side1 ?side2 A4.out).mono ?_); (case side1 => exact Kd.C_nil _ _); (case side2 => exact Nat.le_refl _); rintro e w42 ⟨rfl, hb⟩; have n0_ := Aside0.mk (blk_below (g := gb124) (o := .cells #[.int .i64 2, .int .i64 a2, .int .i64 (l1.length : Int), .slice none 0 0, .string (⟨#[]⟩ : ByteArray), .int .i64 0] 50 (0, 0)) (by (with_reducible repeat (first | refine blk_drewN ?_ _ | refine blk_drew ?_ | refine blk_alloc ?_ _)); refine blk_put (cs := #[.int .i64 2, .int .i64 a2, .int .i64 (l1.length : Int), .slice none 0 0, .string (⟨#[]⟩ : ByteArray), .int .i64 0]) ?_ 5 _ rfl; (with_reducible repeat (first | refine blk_drewN ?_ _ | refine blk_drew ?_ | refine blk_alloc ?_ _)); refine blk_put (cs := #[.int .i64 2, .int .i64 a2, .int .i64 (l1.length : Int), .slice none 0 0, .string (⟨#[]⟩ : ByteArray), .int .i64 0]) ?_ 4 _ rfl; (with_reducible repeat (first | refine blk_drewN ?_ _ | refine blk_drew ?_ | refine blk_alloc ?_ _)); refine blk_put (cs := #[.int .i64 2, .int .i64 a2, .int .i64 (l1.length : Int), .slice none 0 0, .string (⟨#[]⟩ : ByteArray), .int .i64 0]) ?_ 3 _ rfl; (with_reducible repeat (first | refine blk_drewN ?_ _ | refine blk_drew ?_ | refine blk_alloc ?_ _)); refine blk_put (cs := #[.int .i64 2, .int .i64 a2, .int .i64 0, .slice none 0 0, .string (⟨#[]⟩ : ByteArray), .int .i64 0]) ?_ 2 _ rfl; (with_reducible repeat (first | refine blk_drewN ?_ _ | refine blk_drew ?_ | refine blk_alloc ?_ _)); refine blk_put (cs := #[.int .i64 2, .int .i64 0, .int .i64 0, .slice none 0 0, .string (⟨#[]⟩ : ByteArray), .int .i64 0]) ?_ 1 _ rfl; (with_reducible repeat (first | refine blk_drewN ?_ _ | refine blk_drew ?_ | refine blk_alloc ?_ _)); refine blk_put (cs := #[.int .i64 0, .int .i64 0, .int .i64 0, .slice none 0 0, .string (⟨#[]⟩ : ByteArray), .int .i64 0]) ?_ 0 _ rfl; (with_reducible repeat (first | refine blk_drewN ?_ _ | refine blk_drew ?_ | refine blk_alloc ?_ _)); exact BK124.out) hb); have n1_ := Aside0.mk (below_step (by repeat (first | (with_reducible first | exact HB.out | apply below_alloc | apply pw_below_drewN | apply below_drew1 | refine below_set ?_ GE124.out) | exact HB.out)) hb); clear BK124; clear HB; have BK124 := n0_; have HB := n1_; clear n0_ n1_; (try clear hb); (try clear hb2); (try clear hk); (try clear hi); (try simp only [errW_none, errW_some])))
    repeat (go_quiet (first | ((with_reducible refine gate_dst (N := 7) rfl ?_); refine box_event ?hg (N := 7) ?hd (cs := #[.int .i64 0, .int .i64 0, .int .i64 0, .slice none 0 0, .string (⟨#[]⟩ : ByteArray), .int .i64 0]) (t := 50) ?hr ?_; (case hd => rfl); (case hg => rfl); (case hr => first | (go_simp; done) | (go_simp; rfl)); intro gb124 hg w40 hbox hb; have n0_ := Aside0.mk (below_step (by repeat (first | (with_reducible first | exact HB.out | apply below_alloc | apply pw_below_drewN | apply below_drew1) | exact HB.out)) hb); have n1_ := Aside0.mk (hbox); have n2_ := Aside0.mk ((by rw [hg]; exact (below_size (by repeat (first | (with_reducible first | exact HB.out | apply below_alloc | apply pw_below_drewN | apply below_drew1) | exact HB.out))) : w.heap.size ≤ gb124)); have n3_ := Aside0.mk ((by rw [hg]; exact (below_size (by repeat (first | (with_reducible first | exact HB.out | apply below_alloc | apply pw_below_drewN | apply below_drew1) | exact HB.out))) : w.heap.size ≤ gb124)); clear HB; have HB := n0_; have BK124 := n1_; have GW124 := n2_; have GE124 := n3_; clear n0_ n1_ n2_ n3_; clear hb hbox hg; have hcz41_0 : w40.cell? ⟨gb124, 0, none⟩ = some (.int .i64 0) := (blk_cell BK124.out 0).trans rfl; have hcz41_1 : w40.cell? ⟨gb124, 1, none⟩ = some (.int .i64 0) := (blk_cell BK124.out 1).trans rfl; have hcz41_2 : w40.cell? ⟨gb124, 2, none⟩ = some (.int .i64 0) := (blk_cell BK124.out 2).trans rfl; have hcz41_3 : w40.cell? ⟨gb124, 3, none⟩ = some (.slice none 0 0) := (blk_cell BK124.out 3).trans rfl; have hcz41_4 : w40.cell? ⟨gb124, 4, none⟩ = some (.string (⟨#[]⟩ : ByteArray)) := (blk_cell BK124.out 4).trans rfl; have hcz41_5 : w40.cell? ⟨gb124, 5, none⟩ = some (.int .i64 0) := (blk_cell BK124.out 5).trans rfl; have hfz41_0 := blk_frozen BK124.out 0; have hfz41_1 := blk_frozen BK124.out 1; have hfz41_2 := blk_frozen BK124.out 2; have hfz41_3 := blk_frozen BK124.out 3; have hfz41_4 := blk_frozen BK124.out 4; have hfz41_5 := blk_frozen BK124.out 5) | (go_at_call 46; (refine (entry_Check.calls k 2 a2 (l1.length : Int) _ _ ([] : List Int) (⟨#[]⟩ : ByteArray) 0 (some q126) _ ?side1 ?side2 A4.out).mono ?_); (case side1 => exact Kd.C_nil _ _); (case side2 => exact Nat.le_refl _); rintro e w42 ⟨rfl, hb⟩; have n0_ := Aside0.mk (blk_below (g := gb124) (o := .cells #[.int .i64 2, .int .i64 a2, .int .i64 (l1.length : Int), .slice none 0 0, .string (⟨#[]⟩ : ByteArray), .int .i64 0] 50 (0, 0)) (by (with_reducible repeat (first | refine blk_drewN ?_ _ | refine blk_drew ?_ | refine blk_alloc ?_ _)); refine blk_put (cs := #[.int .i64 2, .int .i64 a2, .int .i64 (l1.length : Int), .slice none 0 0, .string (⟨#[]⟩ : ByteArray), .int .i64 0]) ?_ 5 _ rfl; (with_reducible repeat (first | refine blk_drewN ?_ _ | refine blk_drew ?_ | refine blk_alloc ?_ _)); refine blk_put (cs := #[.int .i64 2, .int .i64 a2, .int .i64 (l1.length : Int), .slice none 0 0, .string (⟨#[]⟩ : ByteArray), .int .i64 0]) ?_ 4 _ rfl; (with_reducible repeat (first | refine blk_drewN ?_ _ | refine blk_drew ?_ | refine blk_alloc ?_ _)); refine blk_put (cs := #[.int .i64 2, .int .i64 a2, .int .i64 (l1.length : Int), .slice none 0 0, .string (⟨#[]⟩ : ByteArray), .int .i64 0]) ?_ 3 _ rfl; (with_reducible repeat (first | refine blk_drewN ?_ _ | refine blk_drew ?_ | refine blk_alloc ?_ _)); refine blk_put (cs := #[.int .i64 2, .int .i64 a2, .int .i64 0, .slice none 0 0, .string (⟨#[]⟩ : ByteArray), .int .i64 0]) ?_ 2 _ rfl; (with_reducible repeat (first | refine blk_drewN ?_ _ | refine blk_drew ?_ | refine blk_alloc ?_ _)); refine blk_put (cs := #[.int .i64 2, .int .i64 0, .int .i64 0, .slice none 0 0, .string (⟨#[]⟩ : ByteArray), .int .i64 0]) ?_ 1 _ rfl; (with_reducible repeat (first | refine blk_drewN ?_ _ | refine blk_drew ?_ | refine blk_alloc ?_ _)); refine blk_put (cs := #[.int .i64 0, .int .i64 0, .int .i64 0, .slice none 0 0, .string (⟨#[]⟩ : ByteArray), .int .i64 0]) ?_ 0 _ rfl; (with_reducible repeat (first | refine blk_drewN ?_ _ | refine blk_drew ?_ | refine blk_alloc ?_ _)); exact BK124.out) hb); have n1_ := Aside0.mk (below_step (by repeat (first | (with_reducible first | exact HB.out | apply below_alloc | apply pw_below_drewN | apply below_drew1 | refine below_set ?_ GE124.out) | exact HB.out)) hb); clear BK124; clear HB; have BK124 := n0_; have HB := n1_; clear n0_ n1_; (try clear hb); (try clear hb2); (try clear hk); (try clear hi); (try simp only [errW_none, errW_some]))); try go_wp2_with (first | ((with_reducible refine gate_dst (N := 7) rfl ?_); refine box_event ?hg (N := 7) ?hd (cs := #[.int .i64 0, .int .i64 0, .int .i64 0, .slice none 0 0, .string (⟨#[]⟩ : ByteArray), .int .i64 0]) (t := 50) ?hr ?_; (case hd => rfl); (case hg => rfl); (case hr => first | (go_simp; done) | (go_simp; rfl)); intro gb124 hg w40 hbox hb; have n0_ := Aside0.mk (below_step (by repeat (first | (with_reducible first | exact HB.out | apply below_alloc | apply pw_below_drewN | apply below_drew1) | exact HB.out)) hb); have n1_ := Aside0.mk (hbox); have n2_ := Aside0.mk ((by rw [hg]; exact (below_size (by repeat (first | (with_reducible first | exact HB.out | apply below_alloc | apply pw_below_drewN | apply below_drew1) | exact HB.out))) : w.heap.size ≤ gb124)); have n3_ := Aside0.mk ((by rw [hg]; exact (below_size (by repeat (first | (with_reducible first | exact HB.out | apply below_alloc | apply pw_below_drewN | apply below_drew1) | exact HB.out))) : w.heap.size ≤ gb124)); clear HB; have HB := n0_; have BK124 := n1_; have GW124 := n2_; have GE124 := n3_; clear n0_ n1_ n2_ n3_; clear hb hbox hg; have hcz41_0 : w40.cell? ⟨gb124, 0, none⟩ = some (.int .i64 0) := (blk_cell BK124.out 0).trans rfl; have hcz41_1 : w40.cell? ⟨gb124, 1, none⟩ = some (.int .i64 0) := (blk_cell BK124.out 1).trans rfl; have hcz41_2 : w40.cell? ⟨gb124, 2, none⟩ = some (.int .i64 0) := (blk_cell BK124.out 2).trans rfl; have hcz41_3 : w40.cell? ⟨gb124, 3, none⟩ = some (.slice none 0 0) := (blk_cell BK124.out 3).trans rfl; have hcz41_4 : w40.cell? ⟨gb124, 4, none⟩ = some (.string (⟨#[]⟩ : ByteArray)) := (blk_cell BK124.out 4).trans rfl; have hcz41_5 : w40.cell? ⟨gb124, 5, none⟩ = some (.int .i64 0) := (blk_cell BK124.out 5).trans rfl; have hfz41_0 := blk_frozen BK124.out 0; have hfz41_1 := blk_frozen BK124.out 1; have hfz41_2 := blk_frozen BK124.out 2; have hfz41_3 := blk_frozen BK124.out 3; have hfz41_4 := blk_frozen BK124.out 4; have hfz41_5 := blk_frozen BK124.out 5) | (go_at_call 46; (refine (entry_Check.calls k 2 a2 (l1.length : Int) _ _ ([] : List Int) (⟨#[]⟩ : ByteArray) 0 (some q126) _ ?side1 ?side2 A4.out).mono ?_); (case side1 => exact Kd.C_nil _ _); (case side2 => exact Nat.le_refl _); rintro e w42 ⟨rfl, hb⟩; have n0_ := Aside0.mk (blk_below (g := gb124) (o := .cells #[.int .i64 2, .int .i64 a2, .int .i64 (l1.length : Int), .slice none 0 0, .string (⟨#[]⟩ : ByteArray), .int .i64 0] 50 (0, 0)) (by (with_reducible repeat (first | refine blk_drewN ?_ _ | refine blk_drew ?_ | refine blk_alloc ?_ _)); refine blk_put (cs := #[.int .i64 2, .int .i64 a2, .int .i64 (l1.length : Int), .slice none 0 0, .string (⟨#[]⟩ : ByteArray), .int .i64 0]) ?_ 5 _ rfl; (with_reducible repeat (first | refine blk_drewN ?_ _ | refine blk_drew ?_ | refine blk_alloc ?_ _)); refine blk_put (cs := #[.int .i64 2, .int .i64 a2, .int .i64 (l1.length : Int), .slice none 0 0, .string (⟨#[]⟩ : ByteArray), .int .i64 0]) ?_ 4 _ rfl; (with_reducible repeat (first | refine blk_drewN ?_ _ | refine blk_drew ?_ | refine blk_alloc ?_ _)); refine blk_put (cs := #[.int .i64 2, .int .i64 a2, .int .i64 (l1.length : Int), .slice none 0 0, .string (⟨#[]⟩ : ByteArray), .int .i64 0]) ?_ 3 _ rfl; (with_reducible repeat (first | refine blk_drewN ?_ _ | refine blk_drew ?_ | refine blk_alloc ?_ _)); refine blk_put (cs := #[.int .i64 2, .int .i64 a2, .int .i64 0, .slice none 0 0, .string (⟨#[]⟩ : ByteArray), .int .i64 0]) ?_ 2 _ rfl; (with_reducible repeat (first | refine blk_drewN ?_ _ | refine blk_drew ?_ | refine blk_alloc ?_ _)); refine blk_put (cs := #[.int .i64 2, .int .i64 0, .int .i64 0, .slice none 0 0, .string (⟨#[]⟩ : ByteArray), .int .i64 0]) ?_ 1 _ rfl; (with_reducible repeat (first | refine blk_drewN ?_ _ | refine blk_drew ?_ | refine blk_alloc ?_ _)); refine blk_put (cs := #[.int .i64 0, .int .i64 0, .int .i64 0, .slice none 0 0, .string (⟨#[]⟩ : ByteArray), .int .i64 0]) ?_ 0 _ rfl; (with_reducible repeat (first | refine blk_drewN ?_ _ | refine blk_drew ?_ | refine blk_alloc ?_ _)); exact BK124.out) hb); have n1_ := Aside0.mk (below_step (by repeat (first | (with_reducible first | exact HB.out | apply below_alloc | apply pw_below_drewN | apply below_drew1 | refine below_set ?_ GE124.out) | exact HB.out)) hb); clear BK124; clear HB; have BK124 := n0_; have HB := n1_; clear n0_ n1_; (try clear hb); (try clear hb2); (try clear hk); (try clear hi); (try simp only [errW_none, errW_some]))))
    go_ret
    exact ⟨_, by first | rfl | (simp [errW_none, errW_some] <;> rfl) | (simp [*, errW_none, errW_some] <;> rfl), by first | exact Kd.S_nil _ _ _ _ _ | exact Kd.N_nil _ _ _ _ _ | exact Kd.V_nil _ _ _ _ _ | exact Kd.Q_nil _ _ _ _ _ | exact Kd.R_nil _ _ _ _ _, by repeat (first | (with_reducible first | exact HB.out | apply below_alloc | apply pw_below_drewN | apply below_drew1 | refine below_set ?_ GE124.out) | exact HB.out)⟩

end Go.Proofs.Ytacdocchcfbgcaa.Q
