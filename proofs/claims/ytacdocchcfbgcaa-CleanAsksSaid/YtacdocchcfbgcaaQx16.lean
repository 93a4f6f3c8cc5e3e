-- printed by wip/mp.py (the kit's print, with given functions); Lean checks it
import Derived.Test.YtacdocchcfbgcaaQx0
import Derived.Test.YtacdocchcfbgcaaQx15
namespace Go.Proofs.Ytacdocchcfbgcaa.Q
open Go.RowKit Go.Proofs.YtacdocchcfbgcaaW.PrintWords Go.Proofs.YtacdocchcfbgcaaW.PrintLast Go.Proofs.YtacdocchcfbgcaaW.PrintMore
attribute [local go_sem] max2_int min2_int max_two min_two max_three min_three max_four min_four   -- for this text's walks alone
set_option linter.unusedVariables false
set_option linter.unusedSimpArgs false

/-! ### entry_Same: function 36 -/
def entry_Same.j0 : Nat → Bool → Int → Int → Int → List Int → ByteArray → Int → Int → Int → Int → List Int → ByteArray → Int → Option (Bool)
  | 0, _, _, _, _, _, _, _, _, _, _, _, _, _ => none
  | k + 1, x16, x187000, x187001, x187002, x187003, x187004, x187005, x188000, x188001, x188002, x188003, x188004, x188005 => if x16 = true then (some false) else (if x187000 = 1 then (if x187002 = x188002 then ((slices_Equal_byte_byte.f k x187003 x188003).bind fun t188 => (some t188)) else (some false)) else (if x187000 = 2 then (some (x187002 == x188002)) else (if x187000 = 3 then (if x187004.toList = x188004.toList then (some (x187005 == x188005)) else (some false)) else (if x187000 = 4 then (some (x187004.toList == x188004.toList)) else (if x187000 = 5 then (some (x187005 == x188005)) else (some true))))))
def entry_Same.f (k : Nat) (a0_0 : Int) (a0_1 : Int) (a0_2 : Int) (l0_3 : List Int) (a0_4 : ByteArray) (a0_5 : Int) (a1_0 : Int) (a1_1 : Int) (a1_2 : Int) (l1_3 : List Int) (a1_4 : ByteArray) (a1_5 : Int) : Option (Bool) := if a0_0 = a1_0 then (entry_Same.j0 k (a0_1 != a1_1) a0_0 a0_1 a0_2 l0_3 a0_4 a0_5 a1_0 a1_1 a1_2 l1_3 a1_4 a1_5) else (entry_Same.j0 k true a0_0 a0_1 a0_2 l0_3 a0_4 a0_5 a1_0 a1_1 a1_2 l1_3 a1_4 a1_5)
theorem entry_Same.mono_l : ∀ k, (∀ y0 y1 y2 y3 y4 y5 y6 y7 y8 y9 y10 y11 y12, LeO (entry_Same.j0 k y0 y1 y2 y3 y4 y5 y6 y7 y8 y9 y10 y11 y12) (entry_Same.j0 (k + 1) y0 y1 y2 y3 y4 y5 y6 y7 y8 y9 y10 y11 y12))
  | 0 => fun _ _ _ _ _ _ _ _ _ _ _ _ _ r h => by simp [entry_Same.j0] at h
  | k + 1 => by
    have ih0 := entry_Same.mono_l k
    · intro y0 y1 y2 y3 y4 y5 y6 y7 y8 y9 y10 y11 y12
      unfold entry_Same.j0
      repeat' first
      | (with_reducible exact ih0 _ _ _ _ _ _ _ _ _ _ _ _ _)
      | (with_reducible exact slices_Equal_byte_byte.mono _ _ _)
      | (with_reducible exact LeO.refl _)
      | (with_reducible exact LeO.none _)
      | (with_reducible refine LeO.ite ?_ ?_)
      | (with_reducible refine LeO.bind ?_ (fun _ => ?_))
      | exact ih0 _ _ _ _ _ _ _ _ _ _ _ _ _
      | exact slices_Equal_byte_byte.mono _ _ _
      | exact LeO.none _
      | refine LeO.ite ?_ ?_
      | refine LeO.bind ?_ (fun _ => ?_)
theorem entry_Same.mono : ∀ a0 a1 a2 a3 a4 a5 a6 a7 a8 a9 a10 a11 k, LeO (entry_Same.f k a0 a1 a2 a3 a4 a5 a6 a7 a8 a9 a10 a11) (entry_Same.f (k + 1) a0 a1 a2 a3 a4 a5 a6 a7 a8 a9 a10 a11) := by
  intro a0 a1 a2 a3 a4 a5 a6 a7 a8 a9 a10 a11 k
  have ih0 := entry_Same.mono_l k
  unfold entry_Same.f
  repeat' first
      | (with_reducible exact ih0 _ _ _ _ _ _ _ _ _ _ _ _ _)
      | (with_reducible exact slices_Equal_byte_byte.mono _ _ _)
      | (with_reducible exact LeO.refl _)
      | (with_reducible exact LeO.none _)
      | (with_reducible refine LeO.ite ?_ ?_)
      | (with_reducible refine LeO.bind ?_ (fun _ => ?_))
      | exact ih0 _ _ _ _ _ _ _ _ _ _ _ _ _
      | exact slices_Equal_byte_byte.mono _ _ _
      | exact LeO.none _
      | refine LeO.ite ?_ ?_
      | refine LeO.bind ?_ (fun _ => ?_)
set_option maxHeartbeats 8000000 in
set_option maxRecDepth 100000 in
theorem entry_Same.calls (k : Nat) (a0_0 : Int) (a0_1 : Int) (a0_2 : Int) (A0_3 : Option Addr) (c0_3 : Nat) (l0_3 : List Int) (a0_4 : ByteArray) (a0_5 : Int) (a1_0 : Int) (a1_1 : Int) (a1_2 : Int) (A1_3 : Option Addr) (c1_3 : Nat) (l1_3 : List Int) (a1_4 : ByteArray) (a1_5 : Int) (r : Bool) (w : World) (hr0_3 : Kd.C (Kd.int .u8) w A0_3 l0_3.length l0_3) (hc0_3 : l0_3.length ≤ c0_3) (hr1_3 : Kd.C (Kd.int .u8) w A1_3 l1_3.length l1_3) (hc1_3 : l1_3.length ≤ c1_3) (h : entry_Same.f k a0_0 a0_1 a0_2 l0_3 a0_4 a0_5 a1_0 a1_1 a1_2 l1_3 a1_4 a1_5 = some r) :
    Calls Try.prog 36 #[.agg #[.int .i64 a0_0, .int .i64 a0_1, .int .i64 a0_2, .slice A0_3 l0_3.length c0_3, .string a0_4, .int .i64 a0_5], .agg #[.int .i64 a1_0, .int .i64 a1_1, .int .i64 a1_2, .slice A1_3 l1_3.length c1_3, .string a1_4, .int .i64 a1_5]] w fun e w' => e = .returned (.bool r) ∧ Below w.heap.size w w' := by
  have hu50 := Try.underlying50
  have HR0_3 := Aside0.mk hr0_3
  have HC0_3 := Aside0.mk hc0_3
  clear hr0_3 hc0_3
  have HR1_3 := Aside0.mk hr1_3
  have HC1_3 := Aside0.mk hc1_3
  clear hr1_3 hc1_3
  have HB := Aside0.mk (Below.refl w.heap.size w)
  have H : (if a0_0 = a1_0 then (entry_Same.j0 k (a0_1 != a1_1) a0_0 a0_1 a0_2 l0_3 a0_4 a0_5 a1_0 a1_1 a1_2 l1_3 a1_4 a1_5) else (entry_Same.j0 k true a0_0 a0_1 a0_2 l0_3 a0_4 a0_5 a1_0 a1_1 a1_2 l1_3 a1_4 a1_5)) = some r := h
  clear h
  have HC3 := Aside0.mk H
  clear H
  go_enter Try.func36, Try.ntmps36
  go_upto_region 1 with (first | ((with_reducible refine gate_dst (N := 2) rfl ?_); refine box_event ?hg (N := 2) ?hd (cs := #[.int .i64 a0_0, .int .i64 a0_1, .int .i64 a0_2, .slice A0_3 l0_3.length c0_3, .string a0_4, .int .i64 a0_5]) (t := 50) ?hr ?_; (case hd => rfl); (case hg => rfl); (case hr => first | (go_simp; done) | (go_simp; rfl)); intro gb186 hg w4 hbox hb; have n0_ := Aside0.mk (below_step (by repeat (first | (with_reducible first | exact HB.out | apply below_alloc | apply pw_below_drewN | apply below_drew1) | exact HB.out)) hb); have n1_ := Aside0.mk (hbox); have n2_ := Aside0.mk ((by rw [hg]; exact (below_size (by repeat (first | (with_reducible first | exact HB.out | apply below_alloc | apply pw_below_drewN | apply below_drew1) | exact HB.out))) : w.heap.size ≤ gb186)); have n3_ := Aside0.mk ((by rw [hg]; exact (below_size (by repeat (first | (with_reducible first | exact HB.out | apply below_alloc | apply pw_below_drewN | apply below_drew1) | exact HB.out))) : w.heap.size ≤ gb186)); clear HB; have HB := n0_; have BK186 := n1_; have GW186 := n2_; have GE186 := n3_; clear n0_ n1_ n2_ n3_; clear hb hbox hg) | ((with_reducible refine gate_dst (N := 3) rfl ?_); refine box_event ?hg (N := 3) ?hd (cs := #[.int .i64 a1_0, .int .i64 a1_1, .int .i64 a1_2, .slice A1_3 l1_3.length c1_3, .string a1_4, .int .i64 a1_5]) (t := 50) ?hr ?_; (case hd => rfl); (case hg => rfl); (case hr => first | (go_simp; done) | (go_simp; rfl)); intro gb187 hg w5 hbox hb; have n0_ := Aside0.mk (blk_below (g := gb186) (o := .cells #[.int .i64 a0_0, .int .i64 a0_1, .int .i64 a0_2, .slice A0_3 l0_3.length c0_3, .string a0_4, .int .i64 a0_5] 50 (0, 0)) (by (with_reducible repeat (first | refine blk_drewN ?_ _ | refine blk_drew ?_ | refine blk_alloc ?_ _)); exact BK186.out) hb); have n1_ := Aside0.mk (below_step (by repeat (first | (with_reducible first | exact HB.out | apply below_alloc | apply pw_below_drewN | apply below_drew1 | refine below_set ?_ GE186.out) | exact HB.out)) hb); have n2_ := Aside0.mk (hbox); have n3_ := Aside0.mk ((by rw [hg]; exact (below_size (by repeat (first | (with_reducible first | exact HB.out | apply below_alloc | apply pw_below_drewN | apply below_drew1 | refine below_set ?_ GE186.out) | exact HB.out))) : w.heap.size ≤ gb187)); have n4_ := Aside0.mk ((by rw [hg]; exact (below_size (by repeat (first | (with_reducible first | exact HB.out | apply below_alloc | apply pw_below_drewN | apply below_drew1 | refine below_set ?_ GE186.out) | exact HB.out))) : w.heap.size ≤ gb187)); have n5_ := Aside0.mk ((by rw [hg]; exact Nat.ne_of_lt (blk_lt (g := gb186) (o := .cells #[.int .i64 a0_0, .int .i64 a0_1, .int .i64 a0_2, .slice A0_3 l0_3.length c0_3, .string a0_4, .int .i64 a0_5] 50 (0, 0)) (by (with_reducible repeat (first | refine blk_drewN ?_ _ | refine blk_drew ?_ | refine blk_alloc ?_ _)); exact BK186.out)) : gb186 ≠ gb187)); have n6_ := Aside0.mk ((by rw [hg]; exact Nat.ne_of_gt (blk_lt (g := gb186) (o := .cells #[.int .i64 a0_0, .int .i64 a0_1, .int .i64 a0_2, .slice A0_3 l0_3.length c0_3, .string a0_4, .int .i64 a0_5] 50 (0, 0)) (by (with_reducible repeat (first | refine blk_drewN ?_ _ | refine blk_drew ?_ | refine blk_alloc ?_ _)); exact BK186.out)) : gb187 ≠ gb186)); clear BK186; clear HB; have BK186 := n0_; have HB := n1_; have BK187 := n2_; have GW187 := n3_; have GE187 := n4_; have NB186_187 := n5_; have NB187_186 := n6_; clear n0_ n1_ n2_ n3_ n4_ n5_ n6_; clear hb hbox hg))
  (try simp only [Act.put, List.setIfInBounds_toArray, List.set_cons_zero, List.set_cons_succ])
  go_cut [16] (fun v16 wc => ∃ (kq : Nat) (x16_2 : Bool), v16 = .bool x16_2 ∧ Aside0 (entry_Same.j0 kq x16_2 a0_0 a0_1 a0_2 l0_3 a0_4 a0_5 a1_0 a1_1 a1_2 l1_3 a1_4 a1_5 = some r) ∧ Aside0 (kq ≤ k) ∧ Aside0 (wc.heap[gb186]? = some (.cells #[.int .i64 a0_0, .int .i64 a0_1, .int .i64 a0_2, (.slice A0_3 l0_3.length c0_3), .string a0_4, .int .i64 a0_5] 50 (0, 0))) ∧ Aside0 (wc.heap[gb187]? = some (.cells #[.int .i64 a1_0, .int .i64 a1_1, .int .i64 a1_2, (.slice A1_3 l1_3.length c1_3), .string a1_4, .int .i64 a1_5] 50 (0, 0))) ∧ Aside0 (Below w.heap.size w wc))
  case first =>
    have H := HC3.out
    clear HC3
    by_cases c6 : a0_0 = a1_0
    · rw [if_pos c6] at H
      have c6b0 : (a0_0 == a1_0) = true := beq_iff_eq.mpr c6
      have c6b1 : (a0_0 != a1_0) = false := bne_eq_false_iff_eq.mpr c6
      clear c6
      (first | rw [c6b0] | (simp only [i64_w, i32_w]; rw [c6b0]) | skip)
      have H' := Aside0.mk H
      clear H
      have hnb7 := NB186_187.out
      have hnc7 := NB187_186.out
      have hcz8_0 : w5.cell? ⟨gb186, 0, none⟩ = some (.int .i64 a0_0) := (blk_cell BK186.out 0).trans rfl
      have hcz8_1 : w5.cell? ⟨gb186, 1, none⟩ = some (.int .i64 a0_1) := (blk_cell BK186.out 1).trans rfl
      have hcz8_2 : w5.cell? ⟨gb186, 2, none⟩ = some (.int .i64 a0_2) := (blk_cell BK186.out 2).trans rfl
      have hcz8_3 : w5.cell? ⟨gb186, 3, none⟩ = some (.slice A0_3 l0_3.length c0_3) := (blk_cell BK186.out 3).trans rfl
      have hcz8_4 : w5.cell? ⟨gb186, 4, none⟩ = some (.string a0_4) := (blk_cell BK186.out 4).trans rfl
      have hcz8_5 : w5.cell? ⟨gb186, 5, none⟩ = some (.int .i64 a0_5) := (blk_cell BK186.out 5).trans rfl
      have hfz8_0 := blk_frozen BK186.out 0
      have hfz8_1 := blk_frozen BK186.out 1
      have hfz8_2 := blk_frozen BK186.out 2
      have hfz8_3 := blk_frozen BK186.out 3
      have hfz8_4 := blk_frozen BK186.out 4
      have hfz8_5 := blk_frozen BK186.out 5
      have hcz9_0 : w5.cell? ⟨gb187, 0, none⟩ = some (.int .i64 a1_0) := (blk_cell BK187.out 0).trans rfl
      have hcz9_1 : w5.cell? ⟨gb187, 1, none⟩ = some (.int .i64 a1_1) := (blk_cell BK187.out 1).trans rfl
      have hcz9_2 : w5.cell? ⟨gb187, 2, none⟩ = some (.int .i64 a1_2) := (blk_cell BK187.out 2).trans rfl
      have hcz9_3 : w5.cell? ⟨gb187, 3, none⟩ = some (.slice A1_3 l1_3.length c1_3) := (blk_cell BK187.out 3).trans rfl
      have hcz9_4 : w5.cell? ⟨gb187, 4, none⟩ = some (.string a1_4) := (blk_cell BK187.out 4).trans rfl
      have hcz9_5 : w5.cell? ⟨gb187, 5, none⟩ = some (.int .i64 a1_5) := (blk_cell BK187.out 5).trans rfl
      have hfz9_0 := blk_frozen BK187.out 0
      have hfz9_1 := blk_frozen BK187.out 1
      have hfz9_2 := blk_frozen BK187.out 2
      have hfz9_3 := blk_frozen BK187.out 3
      have hfz9_4 := blk_frozen BK187.out 4
      have hfz9_5 := blk_frozen BK187.out 5
      go_wp2
      go_meet
      case rel => exact ⟨_, ((a0_1 != a1_1)), (by first | rfl | (simp; done) | (simp [*]; done)), H', ⟨by first | omega | exact Nat.le_refl _⟩, ⟨by (with_reducible repeat (first | refine blk_drewN ?_ _ | refine blk_drew ?_ | refine blk_alloc ?_ _)); exact BK186.out⟩, ⟨by (with_reducible repeat (first | refine blk_drewN ?_ _ | refine blk_drew ?_ | refine blk_alloc ?_ _)); exact BK187.out⟩, ⟨by repeat (first | (with_reducible first | exact HB.out | apply below_alloc | apply pw_below_drewN | apply below_drew1 | refine below_set ?_ GE186.out | refine below_set ?_ GE187.out) | exact HB.out)⟩⟩
    · rw [if_neg c6] at H
      have c6b0 : (a0_0 == a1_0) = false := beq_eq_false_iff_ne.mpr c6
      have c6b1 : (a0_0 != a1_0) = true := bne_iff_ne.mpr c6
      (first | rw [c6b0] | (simp only [i64_w, i32_w]; rw [c6b0]) | skip)
      have H' := Aside0.mk H
      clear H
      have hnb10 := NB186_187.out
      have hnc10 := NB187_186.out
      have hcz11_0 : w5.cell? ⟨gb186, 0, none⟩ = some (.int .i64 a0_0) := (blk_cell BK186.out 0).trans rfl
      have hcz11_1 : w5.cell? ⟨gb186, 1, none⟩ = some (.int .i64 a0_1) := (blk_cell BK186.out 1).trans rfl
      have hcz11_2 : w5.cell? ⟨gb186, 2, none⟩ = some (.int .i64 a0_2) := (blk_cell BK186.out 2).trans rfl
      have hcz11_3 : w5.cell? ⟨gb186, 3, none⟩ = some (.slice A0_3 l0_3.length c0_3) := (blk_cell BK186.out 3).trans rfl
      have hcz11_4 : w5.cell? ⟨gb186, 4, none⟩ = some (.string a0_4) := (blk_cell BK186.out 4).trans rfl
      have hcz11_5 : w5.cell? ⟨gb186, 5, none⟩ = some (.int .i64 a0_5) := (blk_cell BK186.out 5).trans rfl
      have hfz11_0 := blk_frozen BK186.out 0
      have hfz11_1 := blk_frozen BK186.out 1
      have hfz11_2 := blk_frozen BK186.out 2
      have hfz11_3 := blk_frozen BK186.out 3
      have hfz11_4 := blk_frozen BK186.out 4
      have hfz11_5 := blk_frozen BK186.out 5
      have hcz12_0 : w5.cell? ⟨gb187, 0, none⟩ = some (.int .i64 a1_0) := (blk_cell BK187.out 0).trans rfl
      have hcz12_1 : w5.cell? ⟨gb187, 1, none⟩ = some (.int .i64 a1_1) := (blk_cell BK187.out 1).trans rfl
      have hcz12_2 : w5.cell? ⟨gb187, 2, none⟩ = some (.int .i64 a1_2) := (blk_cell BK187.out 2).trans rfl
      have hcz12_3 : w5.cell? ⟨gb187, 3, none⟩ = some (.slice A1_3 l1_3.length c1_3) := (blk_cell BK187.out 3).trans rfl
      have hcz12_4 : w5.cell? ⟨gb187, 4, none⟩ = some (.string a1_4) := (blk_cell BK187.out 4).trans rfl
      have hcz12_5 : w5.cell? ⟨gb187, 5, none⟩ = some (.int .i64 a1_5) := (blk_cell BK187.out 5).trans rfl
      have hfz12_0 := blk_frozen BK187.out 0
      have hfz12_1 := blk_frozen BK187.out 1
      have hfz12_2 := blk_frozen BK187.out 2
      have hfz12_3 := blk_frozen BK187.out 3
      have hfz12_4 := blk_frozen BK187.out 4
      have hfz12_5 := blk_frozen BK187.out 5
      go_wp2
      go_meet
      case rel => exact ⟨_, (true), (by first | rfl | (simp; done) | (simp [*]; done)), H', ⟨by first | omega | exact Nat.le_refl _⟩, ⟨by (with_reducible repeat (first | refine blk_drewN ?_ _ | refine blk_drew ?_ | refine blk_alloc ?_ _)); exact BK186.out⟩, ⟨by (with_reducible repeat (first | refine blk_drewN ?_ _ | refine blk_drew ?_ | refine blk_alloc ?_ _)); exact BK187.out⟩, ⟨by repeat (first | (with_reducible first | exact HB.out | apply below_alloc | apply pw_below_drewN | apply below_drew1 | refine below_set ?_ GE186.out | refine below_set ?_ GE187.out) | exact HB.out)⟩⟩
  case rest =>
    clear HC3
    try clear c1
    try clear p2
    try clear c3
    try clear c6
    try clear c6b0
    try clear c6b1
    try clear c7
    try clear c10
    try clear hcz11_0
    try clear hcz11_1
    try clear hcz11_2
    try clear hcz11_3
    try clear hcz11_4
    try clear hcz11_5
    try clear hcz12_0
    try clear hcz12_1
    try clear hcz12_2
    try clear hcz12_3
    try clear hcz12_4
    try clear hcz12_5
    try clear hcz8_0
    try clear hcz8_1
    try clear hcz8_2
    try clear hcz8_3
    try clear hcz8_4
    try clear hcz8_5
    try clear hcz9_0
    try clear hcz9_1
    try clear hcz9_2
    try clear hcz9_3
    try clear hcz9_4
    try clear hcz9_5
    try clear hfz11_0
    try clear hfz11_1
    try clear hfz11_2
    try clear hfz11_3
    try clear hfz11_4
    try clear hfz11_5
    try clear hfz12_0
    try clear hfz12_1
    try clear hfz12_2
    try clear hfz12_3
    try clear hfz12_4
    try clear hfz12_5
    try clear hfz8_0
    try clear hfz8_1
    try clear hfz8_2
    try clear hfz8_3
    try clear hfz8_4
    try clear hfz8_5
    try clear hfz9_0
    try clear hfz9_1
    try clear hfz9_2
    try clear hfz9_3
    try clear hfz9_4
    try clear hfz9_5
    obtain ⟨kq, x16_2, rfl, HA, HJ2, BK186, BK187, HB⟩ := hcut
    cases kq with
    | zero => exact absurd HA.out (by simp [entry_Same.j0])
    | succ kj2 =>
      have H := HA.out
      clear HA
      simp only [entry_Same.j0] at H
      by_cases c13 : x16_2 = true
      · subst c13
        have H1 : (some false) = some r := by rw [if_pos rfl] at H; exact H
        clear H
        have H := H1
        clear H1
        obtain rfl := Option.some.inj H
        go_wp2
        go_ret
        exact ⟨by first | rfl | (simp [errW_none, errW_some] <;> rfl) | (simp [*, errW_none, errW_some] <;> rfl), by repeat (first | (with_reducible first | exact HB.out | apply below_alloc | apply pw_below_drewN | apply below_drew1 | refine below_set ?_ GE186.out | refine below_set ?_ GE187.out) | exact HB.out)⟩
      · replace c13 := Bool.eq_false_iff.mpr c13
        subst c13
        have H1 : (if a0_0 = 1 then (if a0_2 = a1_2 then ((slices_Equal_byte_byte.f kj2 l0_3 l1_3).bind fun t188 => (some t188)) else (some false)) else (if a0_0 = 2 then (some (a0_2 == a1_2)) else (if a0_0 = 3 then (if a0_4.toList = a1_4.toList then (some (a0_5 == a1_5)) else (some false)) else (if a0_0 = 4 then (some (a0_4.toList == a1_4.toList)) else (if a0_0 = 5 then (some (a0_5 == a1_5)) else (some true)))))) = some r := by rw [if_neg (show ¬ (false = true) by decide)] at H; exact H
        clear H
        have H := H1
        clear H1
        by_cases c14 : a0_0 = 1
        · rw [if_pos c14] at H
          have c14b0 : (a0_0 == 1) = true := beq_iff_eq.mpr c14
          have c14b1 : (a0_0 != 1) = false := bne_eq_false_iff_eq.mpr c14
          clear c14
          by_cases c15 : a0_2 = a1_2
          · rw [if_pos c15] at H
            have c15b0 : (a0_2 == a1_2) = true := beq_iff_eq.mpr c15
            have c15b1 : (a0_2 != a1_2) = false := bne_eq_false_iff_eq.mpr c15
            clear c15
            replace H := Option.bind_eq_some_iff.mp H
            obtain ⟨t188, A160, H⟩ := H
            replace H : (some t188) = some r := H
            have A16 := Aside0.mk A160
            clear A160
            obtain rfl := Option.some.inj H
            have hnb17 := NB186_187.out
            have hnc17 := NB187_186.out
            have hcz18_0 : wc.cell? ⟨gb186, 0, none⟩ = some (.int .i64 a0_0) := (blk_cell BK186.out 0).trans rfl
            have hcz18_1 : wc.cell? ⟨gb186, 1, none⟩ = some (.int .i64 a0_1) := (blk_cell BK186.out 1).trans rfl
            have hcz18_2 : wc.cell? ⟨gb186, 2, none⟩ = some (.int .i64 a0_2) := (blk_cell BK186.out 2).trans rfl
            have hcz18_3 : wc.cell? ⟨gb186, 3, none⟩ = some (.slice A0_3 l0_3.length c0_3) := (blk_cell BK186.out 3).trans rfl
            have hcz18_4 : wc.cell? ⟨gb186, 4, none⟩ = some (.string a0_4) := (blk_cell BK186.out 4).trans rfl
            have hcz18_5 : wc.cell? ⟨gb186, 5, none⟩ = some (.int .i64 a0_5) := (blk_cell BK186.out 5).trans rfl
            have hfz18_0 := blk_frozen BK186.out 0
            have hfz18_1 := blk_frozen BK186.out 1
            have hfz18_2 := blk_frozen BK186.out 2
            have hfz18_3 := blk_frozen BK186.out 3
            have hfz18_4 := blk_frozen BK186.out 4
            have hfz18_5 := blk_frozen BK186.out 5
            have hcz19_0 : wc.cell? ⟨gb187, 0, none⟩ = some (.int .i64 a1_0) := (blk_cell BK187.out 0).trans rfl
            have hcz19_1 : wc.cell? ⟨gb187, 1, none⟩ = some (.int .i64 a1_1) := (blk_cell BK187.out 1).trans rfl
            have hcz19_2 : wc.cell? ⟨gb187, 2, none⟩ = some (.int .i64 a1_2) := (blk_cell BK187.out 2).trans rfl
            have hcz19_3 : wc.cell? ⟨gb187, 3, none⟩ = some (.slice A1_3 l1_3.length c1_3) := (blk_cell BK187.out 3).trans rfl
            have hcz19_4 : wc.cell? ⟨gb187, 4, none⟩ = some (.string a1_4) := (blk_cell BK187.out 4).trans rfl
            have hcz19_5 : wc.cell? ⟨gb187, 5, none⟩ = some (.int .i64 a1_5) := (blk_cell BK187.out 5).trans rfl
            have hfz19_0 := blk_frozen BK187.out 0
            have hfz19_1 := blk_frozen BK187.out 1
            have hfz19_2 := blk_frozen BK187.out 2
            have hfz19_3 := blk_frozen BK187.out 3
            have hfz19_4 := blk_frozen BK187.out 4
            have hfz19_5 := blk_frozen BK187.out 5
            go_wp2_with (first | (go_at_call 55; (with_reducible refine (slices_Equal_byte_byte.calls kj2 _ _ l0_3 _ _ l1_3 t188 _ ?side1 ?side2 ?side3 ?side4 A16.out).mono ?_); (case side1 => repeat (first | exact (Kd.C_below HR0_3.out HB.out) | (with_reducible refine Kd.C_alloc ?_ _) | (with_reducible refine Kd.C_drewN ?_ _) | (with_reducible refine Kd.C_drew ?_))); (case side2 => exact HC0_3.out); (case side3 => repeat (first | exact (Kd.C_below HR1_3.out HB.out) | (with_reducible refine Kd.C_alloc ?_ _) | (with_reducible refine Kd.C_drewN ?_ _) | (with_reducible refine Kd.C_drew ?_))); (case side4 => exact HC1_3.out); rintro e w' ⟨rfl, ⟨nd, rfl⟩⟩))
            go_ret
            exact ⟨by first | rfl | (simp [errW_none, errW_some] <;> rfl) | (simp [*, errW_none, errW_some] <;> rfl), by repeat (first | (with_reducible first | exact HB.out | apply below_alloc | apply pw_below_drewN | apply below_drew1 | refine below_set ?_ GE186.out | refine below_set ?_ GE187.out) | exact HB.out)⟩
          · rw [if_neg c15] at H
            have c15b0 : (a0_2 == a1_2) = false := beq_eq_false_iff_ne.mpr c15
            have c15b1 : (a0_2 != a1_2) = true := bne_iff_ne.mpr c15
            obtain rfl := Option.some.inj H
            have hnb20 := NB186_187.out
            have hnc20 := NB187_186.out
            have hcz21_0 : wc.cell? ⟨gb186, 0, none⟩ = some (.int .i64 a0_0) := (blk_cell BK186.out 0).trans rfl
            have hcz21_1 : wc.cell? ⟨gb186, 1, none⟩ = some (.int .i64 a0_1) := (blk_cell BK186.out 1).trans rfl
            have hcz21_2 : wc.cell? ⟨gb186, 2, none⟩ = some (.int .i64 a0_2) := (blk_cell BK186.out 2).trans rfl
            have hcz21_3 : wc.cell? ⟨gb186, 3, none⟩ = some (.slice A0_3 l0_3.length c0_3) := (blk_cell BK186.out 3).trans rfl
            have hcz21_4 : wc.cell? ⟨gb186, 4, none⟩ = some (.string a0_4) := (blk_cell BK186.out 4).trans rfl
            have hcz21_5 : wc.cell? ⟨gb186, 5, none⟩ = some (.int .i64 a0_5) := (blk_cell BK186.out 5).trans rfl
            have hfz21_0 := blk_frozen BK186.out 0
            have hfz21_1 := blk_frozen BK186.out 1
            have hfz21_2 := blk_frozen BK186.out 2
            have hfz21_3 := blk_frozen BK186.out 3
            have hfz21_4 := blk_frozen BK186.out 4
            have hfz21_5 := blk_frozen BK186.out 5
            have hcz22_0 : wc.cell? ⟨gb187, 0, none⟩ = some (.int .i64 a1_0) := (blk_cell BK187.out 0).trans rfl
            have hcz22_1 : wc.cell? ⟨gb187, 1, none⟩ = some (.int .i64 a1_1) := (blk_cell BK187.out 1).trans rfl
            have hcz22_2 : wc.cell? ⟨gb187, 2, none⟩ = some (.int .i64 a1_2) := (blk_cell BK187.out 2).trans rfl
            have hcz22_3 : wc.cell? ⟨gb187, 3, none⟩ = some (.slice A1_3 l1_3.length c1_3) := (blk_cell BK187.out 3).trans rfl
            have hcz22_4 : wc.cell? ⟨gb187, 4, none⟩ = some (.string a1_4) := (blk_cell BK187.out 4).trans rfl
            have hcz22_5 : wc.cell? ⟨gb187, 5, none⟩ = some (.int .i64 a1_5) := (blk_cell BK187.out 5).trans rfl
            have hfz22_0 := blk_frozen BK187.out 0
            have hfz22_1 := blk_frozen BK187.out 1
            have hfz22_2 := blk_frozen BK187.out 2
            have hfz22_3 := blk_frozen BK187.out 3
            have hfz22_4 := blk_frozen BK187.out 4
            have hfz22_5 := blk_frozen BK187.out 5
            go_wp2
            go_ret
            exact ⟨by first | rfl | (simp [errW_none, errW_some] <;> rfl) | (simp [*, errW_none, errW_some] <;> rfl), by repeat (first | (with_reducible first | exact HB.out | apply below_alloc | apply pw_below_drewN | apply below_drew1 | refine below_set ?_ GE186.out | refine below_set ?_ GE187.out) | exact HB.out)⟩
        · rw [if_neg c14] at H
          have c14b0 : (a0_0 == 1) = false := beq_eq_false_iff_ne.mpr c14
          have c14b1 : (a0_0 != 1) = true := bne_iff_ne.mpr c14
          by_cases c23 : a0_0 = 2
          · rw [if_pos c23] at H
            have c23b0 : (a0_0 == 2) = true := beq_iff_eq.mpr c23
            have c23b1 : (a0_0 != 2) = false := bne_eq_false_iff_eq.mpr c23
            clear c23
            obtain rfl := Option.some.inj H
            have hnb24 := NB186_187.out
            have hnc24 := NB187_186.out
            have hcz25_0 : wc.cell? ⟨gb186, 0, none⟩ = some (.int .i64 a0_0) := (blk_cell BK186.out 0).trans rfl
            have hcz25_1 : wc.cell? ⟨gb186, 1, none⟩ = some (.int .i64 a0_1) := (blk_cell BK186.out 1).trans rfl
            have hcz25_2 : wc.cell? ⟨gb186, 2, none⟩ = some (.int .i64 a0_2) := (blk_cell BK186.out 2).trans rfl
            have hcz25_3 : wc.cell? ⟨gb186, 3, none⟩ = some (.slice A0_3 l0_3.length c0_3) := (blk_cell BK186.out 3).trans rfl
            have hcz25_4 : wc.cell? ⟨gb186, 4, none⟩ = some (.string a0_4) := (blk_cell BK186.out 4).trans rfl
            have hcz25_5 : wc.cell? ⟨gb186, 5, none⟩ = some (.int .i64 a0_5) := (blk_cell BK186.out 5).trans rfl
            have hfz25_0 := blk_frozen BK186.out 0
            have hfz25_1 := blk_frozen BK186.out 1
            have hfz25_2 := blk_frozen BK186.out 2
            have hfz25_3 := blk_frozen BK186.out 3
            have hfz25_4 := blk_frozen BK186.out 4
            have hfz25_5 := blk_frozen BK186.out 5
            have hcz26_0 : wc.cell? ⟨gb187, 0, none⟩ = some (.int .i64 a1_0) := (blk_cell BK187.out 0).trans rfl
            have hcz26_1 : wc.cell? ⟨gb187, 1, none⟩ = some (.int .i64 a1_1) := (blk_cell BK187.out 1).trans rfl
            have hcz26_2 : wc.cell? ⟨gb187, 2, none⟩ = some (.int .i64 a1_2) := (blk_cell BK187.out 2).trans rfl
            have hcz26_3 : wc.cell? ⟨gb187, 3, none⟩ = some (.slice A1_3 l1_3.length c1_3) := (blk_cell BK187.out 3).trans rfl
            have hcz26_4 : wc.cell? ⟨gb187, 4, none⟩ = some (.string a1_4) := (blk_cell BK187.out 4).trans rfl
            have hcz26_5 : wc.cell? ⟨gb187, 5, none⟩ = some (.int .i64 a1_5) := (blk_cell BK187.out 5).trans rfl
            have hfz26_0 := blk_frozen BK187.out 0
            have hfz26_1 := blk_frozen BK187.out 1
            have hfz26_2 := blk_frozen BK187.out 2
            have hfz26_3 := blk_frozen BK187.out 3
            have hfz26_4 := blk_frozen BK187.out 4
            have hfz26_5 := blk_frozen BK187.out 5
            go_wp2
            go_ret
            exact ⟨by first | rfl | (simp [errW_none, errW_some] <;> rfl) | (simp [*, errW_none, errW_some] <;> rfl), by repeat (first | (with_reducible first | exact HB.out | apply below_alloc | apply pw_below_drewN | apply below_drew1 | refine below_set ?_ GE186.out | refine below_set ?_ GE187.out) | exact HB.out)⟩
          · rw [if_neg c23] at H
            have c23b0 : (a0_0 == 2) = false := beq_eq_false_iff_ne.mpr c23
            have c23b1 : (a0_0 != 2) = true := bne_iff_ne.mpr c23
            by_cases c27 : a0_0 = 3
            · rw [if_pos c27] at H
              have c27b0 : (a0_0 == 3) = true := beq_iff_eq.mpr c27
              have c27b1 : (a0_0 != 3) = false := bne_eq_false_iff_eq.mpr c27
              clear c27
              by_cases c28 : a0_4.toList = a1_4.toList
              · rw [if_pos c28] at H
                have c28b0 : (a0_4.toList == a1_4.toList) = true := beq_iff_eq.mpr c28
                have c28b1 : (a0_4.toList != a1_4.toList) = false := bne_eq_false_iff_eq.mpr c28
                clear c28
                obtain rfl := Option.some.inj H
                have hnb29 := NB186_187.out
                have hnc29 := NB187_186.out
                have hcz30_0 : wc.cell? ⟨gb186, 0, none⟩ = some (.int .i64 a0_0) := (blk_cell BK186.out 0).trans rfl
                have hcz30_1 : wc.cell? ⟨gb186, 1, none⟩ = some (.int .i64 a0_1) := (blk_cell BK186.out 1).trans rfl
                have hcz30_2 : wc.cell? ⟨gb186, 2, none⟩ = some (.int .i64 a0_2) := (blk_cell BK186.out 2).trans rfl
                have hcz30_3 : wc.cell? ⟨gb186, 3, none⟩ = some (.slice A0_3 l0_3.length c0_3) := (blk_cell BK186.out 3).trans rfl
                have hcz30_4 : wc.cell? ⟨gb186, 4, none⟩ = some (.string a0_4) := (blk_cell BK186.out 4).trans rfl
                have hcz30_5 : wc.cell? ⟨gb186, 5, none⟩ = some (.int .i64 a0_5) := (blk_cell BK186.out 5).trans rfl
                have hfz30_0 := blk_frozen BK186.out 0
                have hfz30_1 := blk_frozen BK186.out 1
                have hfz30_2 := blk_frozen BK186.out 2
                have hfz30_3 := blk_frozen BK186.out 3
                have hfz30_4 := blk_frozen BK186.out 4
                have hfz30_5 := blk_frozen BK186.out 5
                have hcz31_0 : wc.cell? ⟨gb187, 0, none⟩ = some (.int .i64 a1_0) := (blk_cell BK187.out 0).trans rfl
                have hcz31_1 : wc.cell? ⟨gb187, 1, none⟩ = some (.int .i64 a1_1) := (blk_cell BK187.out 1).trans rfl
                have hcz31_2 : wc.cell? ⟨gb187, 2, none⟩ = some (.int .i64 a1_2) := (blk_cell BK187.out 2).trans rfl
                have hcz31_3 : wc.cell? ⟨gb187, 3, none⟩ = some (.slice A1_3 l1_3.length c1_3) := (blk_cell BK187.out 3).trans rfl
                have hcz31_4 : wc.cell? ⟨gb187, 4, none⟩ = some (.string a1_4) := (blk_cell BK187.out 4).trans rfl
                have hcz31_5 : wc.cell? ⟨gb187, 5, none⟩ = some (.int .i64 a1_5) := (blk_cell BK187.out 5).trans rfl
                have hfz31_0 := blk_frozen BK187.out 0
                have hfz31_1 := blk_frozen BK187.out 1
                have hfz31_2 := blk_frozen BK187.out 2
                have hfz31_3 := blk_frozen BK187.out 3
                have hfz31_4 := blk_frozen BK187.out 4
                have hfz31_5 := blk_frozen BK187.out 5
                go_wp2
                go_ret
                exact ⟨by first | rfl | (simp [errW_none, errW_some] <;> rfl) | (simp [*, errW_none, errW_some] <;> rfl), by repeat (first | (with_reducible first | exact HB.out | apply below_alloc | apply pw_below_drewN | apply below_drew1 | refine below_set ?_ GE186.out | refine below_set ?_ GE187.out) | exact HB.out)⟩
              · rw [if_neg c28] at H
                have c28b0 : (a0_4.toList == a1_4.toList) = false := beq_eq_false_iff_ne.mpr c28
                have c28b1 : (a0_4.toList != a1_4.toList) = true := bne_iff_ne.mpr c28
                obtain rfl := Option.some.inj H
                have hnb32 := NB186_187.out
                have hnc32 := NB187_186.out
                have hcz33_0 : wc.cell? ⟨gb186, 0, none⟩ = some (.int .i64 a0_0) := (blk_cell BK186.out 0).trans rfl
                have hcz33_1 : wc.cell? ⟨gb186, 1, none⟩ = some (.int .i64 a0_1) := (blk_cell BK186.out 1).trans rfl
                have hcz33_2 : wc.cell? ⟨gb186, 2, none⟩ = some (.int .i64 a0_2) := (blk_cell BK186.out 2).trans rfl
                have hcz33_3 : wc.cell? ⟨gb186, 3, none⟩ = some (.slice A0_3 l0_3.length c0_3) := (blk_cell BK186.out 3).trans rfl
                have hcz33_4 : wc.cell? ⟨gb186, 4, none⟩ = some (.string a0_4) := (blk_cell BK186.out 4).trans rfl
                have hcz33_5 : wc.cell? ⟨gb186, 5, none⟩ = some (.int .i64 a0_5) := (blk_cell BK186.out 5).trans rfl
                have hfz33_0 := blk_frozen BK186.out 0
                have hfz33_1 := blk_frozen BK186.out 1
                have hfz33_2 := blk_frozen BK186.out 2
                have hfz33_3 := blk_frozen BK186.out 3
                have hfz33_4 := blk_frozen BK186.out 4
                have hfz33_5 := blk_frozen BK186.out 5
                have hcz34_0 : wc.cell? ⟨gb187, 0, none⟩ = some (.int .i64 a1_0) := (blk_cell BK187.out 0).trans rfl
                have hcz34_1 : wc.cell? ⟨gb187, 1, none⟩ = some (.int .i64 a1_1) := (blk_cell BK187.out 1).trans rfl
                have hcz34_2 : wc.cell? ⟨gb187, 2, none⟩ = some (.int .i64 a1_2) := (blk_cell BK187.out 2).trans rfl
                have hcz34_3 : wc.cell? ⟨gb187, 3, none⟩ = some (.slice A1_3 l1_3.length c1_3) := (blk_cell BK187.out 3).trans rfl
                have hcz34_4 : wc.cell? ⟨gb187, 4, none⟩ = some (.string a1_4) := (blk_cell BK187.out 4).trans rfl
                have hcz34_5 : wc.cell? ⟨gb187, 5, none⟩ = some (.int .i64 a1_5) := (blk_cell BK187.out 5).trans rfl
                have hfz34_0 := blk_frozen BK187.out 0
                have hfz34_1 := blk_frozen BK187.out 1
                have hfz34_2 := blk_frozen BK187.out 2
                have hfz34_3 := blk_frozen BK187.out 3
                have hfz34_4 := blk_frozen BK187.out 4
                have hfz34_5 := blk_frozen BK187.out 5
                go_wp2
                go_ret
                exact ⟨by first | rfl | (simp [errW_none, errW_some] <;> rfl) | (simp [*, errW_none, errW_some] <;> rfl), by repeat (first | (with_reducible first | exact HB.out | apply below_alloc | apply pw_below_drewN | apply below_drew1 | refine below_set ?_ GE186.out | refine below_set ?_ GE187.out) | exact HB.out)⟩
            · rw [if_neg c27] at H
              have c27b0 : (a0_0 == 3) = false := beq_eq_false_iff_ne.mpr c27
              have c27b1 : (a0_0 != 3) = true := bne_iff_ne.mpr c27
              by_cases c35 : a0_0 = 4
              · rw [if_pos c35] at H
                have c35b0 : (a0_0 == 4) = true := beq_iff_eq.mpr c35
                have c35b1 : (a0_0 != 4) = false := bne_eq_false_iff_eq.mpr c35
                clear c35
                obtain rfl := Option.some.inj H
                have hnb36 := NB186_187.out
                have hnc36 := NB187_186.out
                have hcz37_0 : wc.cell? ⟨gb186, 0, none⟩ = some (.int .i64 a0_0) := (blk_cell BK186.out 0).trans rfl
                have hcz37_1 : wc.cell? ⟨gb186, 1, none⟩ = some (.int .i64 a0_1) := (blk_cell BK186.out 1).trans rfl
                have hcz37_2 : wc.cell? ⟨gb186, 2, none⟩ = some (.int .i64 a0_2) := (blk_cell BK186.out 2).trans rfl
                have hcz37_3 : wc.cell? ⟨gb186, 3, none⟩ = some (.slice A0_3 l0_3.length c0_3) := (blk_cell BK186.out 3).trans rfl
                have hcz37_4 : wc.cell? ⟨gb186, 4, none⟩ = some (.string a0_4) := (blk_cell BK186.out 4).trans rfl
                have hcz37_5 : wc.cell? ⟨gb186, 5, none⟩ = some (.int .i64 a0_5) := (blk_cell BK186.out 5).trans rfl
                have hfz37_0 := blk_frozen BK186.out 0
                have hfz37_1 := blk_frozen BK186.out 1
                have hfz37_2 := blk_frozen BK186.out 2
                have hfz37_3 := blk_frozen BK186.out 3
                have hfz37_4 := blk_frozen BK186.out 4
                have hfz37_5 := blk_frozen BK186.out 5
                have hcz38_0 : wc.cell? ⟨gb187, 0, none⟩ = some (.int .i64 a1_0) := (blk_cell BK187.out 0).trans rfl
                have hcz38_1 : wc.cell? ⟨gb187, 1, none⟩ = some (.int .i64 a1_1) := (blk_cell BK187.out 1).trans rfl
                have hcz38_2 : wc.cell? ⟨gb187, 2, none⟩ = some (.int .i64 a1_2) := (blk_cell BK187.out 2).trans rfl
                have hcz38_3 : wc.cell? ⟨gb187, 3, none⟩ = some (.slice A1_3 l1_3.length c1_3) := (blk_cell BK187.out 3).trans rfl
                have hcz38_4 : wc.cell? ⟨gb187, 4, none⟩ = some (.string a1_4) := (blk_cell BK187.out 4).trans rfl
                have hcz38_5 : wc.cell? ⟨gb187, 5, none⟩ = some (.int .i64 a1_5) := (blk_cell BK187.out 5).trans rfl
                have hfz38_0 := blk_frozen BK187.out 0
                have hfz38_1 := blk_frozen BK187.out 1
                have hfz38_2 := blk_frozen BK187.out 2
                have hfz38_3 := blk_frozen BK187.out 3
                have hfz38_4 := blk_frozen BK187.out 4
                have hfz38_5 := blk_frozen BK187.out 5
                go_wp2
                go_ret
                exact ⟨by first | rfl | (simp [errW_none, errW_some] <;> rfl) | (simp [*, errW_none, errW_some] <;> rfl), by repeat (first | (with_reducible first | exact HB.out | apply below_alloc | apply pw_below_drewN | apply below_drew1 | refine below_set ?_ GE186.out | refine below_set ?_ GE187.out) | exact HB.out)⟩
              · rw [if_neg c35] at H
                have c35b0 : (a0_0 == 4) = false := beq_eq_false_iff_ne.mpr c35
                have c35b1 : (a0_0 != 4) = true := bne_iff_ne.mpr c35
                by_cases c39 : a0_0 = 5
                · rw [if_pos c39] at H
                  have c39b0 : (a0_0 == 5) = true := beq_iff_eq.mpr c39
                  have c39b1 : (a0_0 != 5) = false := bne_eq_false_iff_eq.mpr c39
                  clear c39
                  obtain rfl := Option.some.inj H
                  have hnb40 := NB186_187.out
                  have hnc40 := NB187_186.out
                  have hcz41_0 : wc.cell? ⟨gb186, 0, none⟩ = some (.int .i64 a0_0) := (blk_cell BK186.out 0).trans rfl
                  have hcz41_1 : wc.cell? ⟨gb186, 1, none⟩ = some (.int .i64 a0_1) := (blk_cell BK186.out 1).trans rfl
                  have hcz41_2 : wc.cell? ⟨gb186, 2, none⟩ = some (.int .i64 a0_2) := (blk_cell BK186.out 2).trans rfl
                  have hcz41_3 : wc.cell? ⟨gb186, 3, none⟩ = some (.slice A0_3 l0_3.length c0_3) := (blk_cell BK186.out 3).trans rfl
                  have hcz41_4 : wc.cell? ⟨gb186, 4, none⟩ = some (.string a0_4) := (blk_cell BK186.out 4).trans rfl
                  have hcz41_5 : wc.cell? ⟨gb186, 5, none⟩ = some (.int .i64 a0_5) := (blk_cell BK186.out 5).trans rfl
                  have hfz41_0 := blk_frozen BK186.out 0
                  have hfz41_1 := blk_frozen BK186.out 1
                  have hfz41_2 := blk_frozen BK186.out 2
                  have hfz41_3 := blk_frozen BK186.out 3
                  have hfz41_4 := blk_frozen BK186.out 4
                  have hfz41_5 := blk_frozen BK186.out 5
                  have hcz42_0 : wc.cell? ⟨gb187, 0, none⟩ = some (.int .i64 a1_0) := (blk_cell BK187.out 0).trans rfl
                  have hcz42_1 : wc.cell? ⟨gb187, 1, none⟩ = some (.int .i64 a1_1) := (blk_cell BK187.out 1).trans rfl
                  have hcz42_2 : wc.cell? ⟨gb187, 2, none⟩ = some (.int .i64 a1_2) := (blk_cell BK187.out 2).trans rfl
                  have hcz42_3 : wc.cell? ⟨gb187, 3, none⟩ = some (.slice A1_3 l1_3.length c1_3) := (blk_cell BK187.out 3).trans rfl
                  have hcz42_4 : wc.cell? ⟨gb187, 4, none⟩ = some (.string a1_4) := (blk_cell BK187.out 4).trans rfl
                  have hcz42_5 : wc.cell? ⟨gb187, 5, none⟩ = some (.int .i64 a1_5) := (blk_cell BK187.out 5).trans rfl
                  have hfz42_0 := blk_frozen BK187.out 0
                  have hfz42_1 := blk_frozen BK187.out 1
                  have hfz42_2 := blk_frozen BK187.out 2
                  have hfz42_3 := blk_frozen BK187.out 3
                  have hfz42_4 := blk_frozen BK187.out 4
                  have hfz42_5 := blk_frozen BK187.out 5
                  go_wp2
                  go_ret
                  exact ⟨by first | rfl | (simp [errW_none, errW_some] <;> rfl) | (simp [*, errW_none, errW_some] <;> rfl), by repeat (first | (with_reducible first | exact HB.out | apply below_alloc | apply pw_below_drewN | apply below_drew1 | refine below_set ?_ GE186.out | refine below_set ?_ GE187.out) | exact HB.out)⟩
                · rw [if_neg c39] at H
                  have c39b0 : (a0_0 == 5) = false := beq_eq_false_iff_ne.mpr c39
                  have c39b1 : (a0_0 != 5) = true := bne_iff_ne.mpr c39
                  obtain rfl := Option.some.inj H
                  have hnb43 := NB186_187.out
                  have hnc43 := NB187_186.out
                  have hcz44_0 : wc.cell? ⟨gb186, 0, none⟩ = some (.int .i64 a0_0) := (blk_cell BK186.out 0).trans rfl
                  have hcz44_1 : wc.cell? ⟨gb186, 1, none⟩ = some (.int .i64 a0_1) := (blk_cell BK186.out 1).trans rfl
                  have hcz44_2 : wc.cell? ⟨gb186, 2, none⟩ = some (.int .i64 a0_2) := (blk_cell BK186.out 2).trans rfl
                  have hcz44_3 : wc.cell? ⟨gb186, 3, none⟩ = some (.slice A0_3 l0_3.length c0_3) := (blk_cell BK186.out 3).trans rfl
                  have hcz44_4 : wc.cell? ⟨gb186, 4, none⟩ = some (.string a0_4) := (blk_cell BK186.out 4).trans rfl
                  have hcz44_5 : wc.cell? ⟨gb186, 5, none⟩ = some (.int .i64 a0_5) := (blk_cell BK186.out 5).trans rfl
                  have hfz44_0 := blk_frozen BK186.out 0
                  have hfz44_1 := blk_frozen BK186.out 1
                  have hfz44_2 := blk_frozen BK186.out 2
                  have hfz44_3 := blk_frozen BK186.out 3
                  have hfz44_4 := blk_frozen BK186.out 4
                  have hfz44_5 := blk_frozen BK186.out 5
                  go_wp2
                  go_ret
                  exact ⟨by first | rfl | (simp [errW_none, errW_some] <;> rfl) | (simp [*, errW_none, errW_some] <;> rfl), by repeat (first | (with_reducible first | exact HB.out | apply below_alloc | apply pw_below_drewN | apply below_drew1 | refine below_set ?_ GE186.out | refine below_set ?_ GE187.out) | exact HB.out)⟩

end Go.Proofs.Ytacdocchcfbgcaa.Q
