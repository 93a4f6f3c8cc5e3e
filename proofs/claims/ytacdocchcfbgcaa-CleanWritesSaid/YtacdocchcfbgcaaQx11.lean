-- printed by wip/mp.py (the kit's print, with given functions); Lean checks it
import Derived.Test.YtacdocchcfbgcaaQx0
namespace Go.Proofs.Ytacdocchcfbgcaa.Q
open Go.RowKit Go.Proofs.YtacdocchcfbgcaaW.PrintWords Go.Proofs.YtacdocchcfbgcaaW.PrintLast Go.Proofs.YtacdocchcfbgcaaW.PrintMore
attribute [local go_sem] max2_int min2_int max_two min_two max_three min_three max_four min_four   -- for this text's walks alone
set_option linter.unusedVariables false
set_option linter.unusedSimpArgs false

/-! ### dolmenlaw14_made: function 27 -/
def dolmenlaw14_made.l0 : Nat → List (S32) → List (S50) → Int → Option ((List (S50)))
  | 0, _, _, _ => none
  | k + 1, x0, x3, x4 => if x4 < (x0.length : Int) then (if 0 ≤ x4 then (if x3.length < 1954687338268 then (dolmenlaw14_made.l0 k x0 (x3 ++ [(⟨(rd_T32 x0 x4).f0, (rd_T32 x0 x4).f1, (rd_T32 x0 x4).f2, (rd_T32 x0 x4).f3, (rd_T32 x0 x4).f4, (rd_T32 x0 x4).f5⟩ : S50)]) (wrap64 (x4 + 1))) else (none)) else (none)) else (some x3)
def dolmenlaw14_made.f (k : Nat) (l0 : List (S32)) : Option ((List (S50))) := dolmenlaw14_made.l0 k l0 ([] : List (S50)) 0
theorem dolmenlaw14_made.mono_l : ∀ k, (∀ y0 y1 y2, LeO (dolmenlaw14_made.l0 k y0 y1 y2) (dolmenlaw14_made.l0 (k + 1) y0 y1 y2))
  | 0 => fun _ _ _ r h => by simp [dolmenlaw14_made.l0] at h
  | k + 1 => by
    have ih0 := dolmenlaw14_made.mono_l k
    · intro y0 y1 y2
      unfold dolmenlaw14_made.l0
      repeat' first
      | (with_reducible exact ih0 _ _ _)
      | (with_reducible exact LeO.refl _)
      | (with_reducible exact LeO.none _)
      | (with_reducible refine LeO.ite ?_ ?_)
      | (with_reducible refine LeO.bind ?_ (fun _ => ?_))
      | exact ih0 _ _ _
      | exact LeO.none _
      | refine LeO.ite ?_ ?_
      | refine LeO.bind ?_ (fun _ => ?_)
theorem dolmenlaw14_made.mono : ∀ a0 k, LeO (dolmenlaw14_made.f k a0) (dolmenlaw14_made.f (k + 1) a0) := by
  intro a0 k
  have ih0 := dolmenlaw14_made.mono_l k
  unfold dolmenlaw14_made.f
  repeat' first
      | (with_reducible exact ih0 _ _ _)
      | (with_reducible exact LeO.refl _)
      | (with_reducible exact LeO.none _)
      | (with_reducible refine LeO.ite ?_ ?_)
      | (with_reducible refine LeO.bind ?_ (fun _ => ?_))
      | exact ih0 _ _ _
      | exact LeO.none _
      | refine LeO.ite ?_ ?_
      | refine LeO.bind ?_ (fun _ => ?_)
set_option maxHeartbeats 8000000 in
set_option maxRecDepth 100000 in
theorem dolmenlaw14_made.calls (k : Nat) (P0_ : Nat → Prop) (A0 : Option Addr) (c0 : Nat) (l0 : List (S32)) (r : List (S50)) (w : World) (hs0 : Kd.V k32 32 w w.heap.size (fun k_ => P0_ k_) (.slice A0 l0.length c0) l0) (h : dolmenlaw14_made.f k l0 = some r) :
    Calls Try.prog 27 #[.slice A0 l0.length c0] w fun e w' => ∃ v0_ : Value, e = .returned (v0_) ∧ Kd.N k50 50 w' w.heap.size (fun k_ => (P0_ k_ ∨ w.heap.size ≤ k_)) v0_ r ∧ Below w.heap.size w w' := by
  have hu32 := Try.underlying32
  have hu50 := Try.underlying50
  have HO0 := Aside0.mk (show Kd.V k32 32 w w.heap.size (fun k_ => (P0_ k_ ∨ w.heap.size ≤ k_)) (.slice A0 l0.length c0) l0 from Kd.V_mono hs0 (fun k_ hk => .inl hk))
  have HB := Aside0.mk (Below.refl w.heap.size w)
  have H : (dolmenlaw14_made.l0 k l0 ([] : List (S50)) 0) = some r := h
  clear h
  have H' := Aside0.mk H
  clear H
  go_enter Try.func27, Try.ntmps27
  go_wp2
  go_loopg [3, 4] k (fun kq v3 v4 w' => ∃ (x3_1 : List (S50)) (x4_1 : Int), v4 = .int .i64 x4_1 ∧ Aside0 (dolmenlaw14_made.l0 kq l0 x3_1 x4_1 = some r) ∧ Aside0 (kq ≤ k) ∧ Aside0 (Kd.V k32 32 w' w.heap.size (fun k_ => (P0_ k_ ∨ w.heap.size ≤ k_) ∧ some k_ ≠ (v3 : Value).ownBlock) (.slice A0 l0.length c0) l0) ∧ Aside0 (Kd.N k50 50 w' w.heap.size (fun k_ => (P0_ k_ ∨ w.heap.size ≤ k_)) v3 x3_1) ∧ Aside0 (Below w.heap.size w w'))
  case atStart => exact ⟨(([] : List (S50))), (0), (by first | rfl | (simp; done) | (simp [*]; done)), H', ⟨Nat.le_refl _⟩, ⟨by (with_reducible repeat (first | apply Kd.V_alloc | apply Kd.V_drewN | apply Kd.V_drew)); exact Kd.V_mono HO0.out (fun _ hk => ⟨hk, (by simp [Value.ownBlock])⟩)⟩, ⟨by first | exact Kd.S_nil _ _ _ _ _ | exact Kd.N_nil _ _ _ _ _ | exact Kd.V_nil _ _ _ _ _ | exact Kd.Q_nil _ _ _ _ _ | exact Kd.R_nil _ _ _ _ _⟩, ⟨by repeat (first | (with_reducible first | exact HB.out | apply below_alloc | apply pw_below_drewN | apply below_drew1) | exact HB.out)⟩⟩
  case round =>
    clear H'
    obtain ⟨x3_1, x4_1, rfl, HA, HK1, HO_0, HO_3, HB⟩ := hrel
    cases gk with
    | zero => exact absurd HA.out (by simp [dolmenlaw14_made.l0])
    | succ k1 =>
      have H := HA.out
      clear HA
      simp only [dolmenlaw14_made.l0] at H
      by_cases c2 : x4_1 < (l0.length : Int)
      · rw [if_pos c2] at H
        have c2b0 : decide (x4_1 < (l0.length : Int)) = true := decide_eq_true c2
        clear c2
        by_cases c3 : 0 ≤ x4_1
        · rw [if_pos c3] at H
          have c3b0 : decide (0 ≤ x4_1) = true := decide_eq_true c3
          clear c3
          by_cases c4 : x3_1.length < 1954687338268
          · rw [if_pos c4] at H
            have LMc4 := Aside0.mk c4
            clear c4
            obtain ⟨y162, hy162⟩ : ∃ y_ : List (S50), y_ = (x3_1 ++ [(⟨(rd_T32 l0 x4_1).f0, (rd_T32 l0 x4_1).f1, (rd_T32 l0 x4_1).f2, (rd_T32 l0 x4_1).f3, (rd_T32 l0 x4_1).f4, (rd_T32 l0 x4_1).f5⟩ : S50)]) := ⟨_, rfl⟩
            replace H : (dolmenlaw14_made.l0 k1 l0 y162 (wrap64 (x4_1 + 1))) = some r := by first | (rw [hy162]; with_reducible exact H) | (have H2_ := (Option.bind_some _ _).symm.trans H; rw [hy162]; with_reducible exact H2_) | (have H2_ := (Option.bind_some _ _).symm.trans H; with_reducible exact H2_) | with_reducible exact H | (rw [hy162]; exact H) | exact H
            have Ny162 := Aside0.mk hy162
            clear hy162
            have H' := Aside0.mk H
            clear H
            have p160 : 0 ≤ (x4_1 : Int) := of_decide_eq_true (by first | (with_reducible assumption) | assumption)
            have q160 : x4_1 < (l0.length : Int) := of_decide_eq_true (by first | (with_reducible assumption) | assumption)
            obtain ⟨ad160, A160_3, c160_3, e160, hx160_0, hx160_1, hx160_2, hx160_3, hx160_4, hx160_5, hl160_3, hi160_3⟩ := at_T32 (Kd.V_reads' HO_0.out).2.2 x4_1 p160 q160
            cases e160
            obtain ⟨ce160, hce160, hMe160, hcc160⟩ := Kd.V_get HO_0.out z32 x4_1 p160 (by first | exact q160 | exact of_decide_eq_true (by first | (with_reducible assumption) | assumption) | (have e_ := (Kd.V_reads' HO_0.out).1; omega))
            obtain ⟨ua160_3, uc160_3, rfl, ul160_3, ge160_3⟩ := k32_openF hMe160
            have hv160_3 := hcc160 3 _ rfl
            rw [add_field _ _ 3 (by omega)] at hv160_3
            replace hv160_3 := Option.some.inj (hv160_3.symm.trans hx160_3)
            injection hv160_3 with hva_ hvn_ hvc_
            rw [hva_] at ge160_3
            rw [hvc_] at ul160_3
            have HL160_3 := Aside0.mk (show Kd.V (Kd.int .u8) 5 _ w.heap.size _ _ ((rd_T32 l0 x4_1).f3) from Kd.V_mk ul160_3 ge160_3)
            clear hva_ hvn_ hvc_ ge160_3 ul160_3
            clear hcc160 hce160
            have HR160_3 := Aside0.mk hi160_3
            have HC160_3 := Aside0.mk hl160_3
            clear hi160_3 hl160_3
            replace p160 := eq_true p160
            replace q160 := eq_true q160
            go_wp2_with (first | ((with_reducible refine gate_dst (N := 5) rfl ?_); refine box_event ?hg (N := 5) ?hd (cs := #[.int .i64 0, .int .i64 0, .int .i64 0, .slice none 0 0, .string (⟨#[]⟩ : ByteArray), .int .i64 0]) (t := 32) ?hr ?_; (case hd => rfl); (case hg => rfl); (case hr => first | (go_simp; done) | (go_simp; rfl)); intro gb161 hg w5 hbox hb; have n0_ := Aside0.mk (Kd.V_below (Kd.V_elderB (by (with_reducible repeat (first | apply Kd.V_alloc | apply Kd.V_drewN | apply Kd.V_drew)); exact HO_0.out) gb161 (Nat.le_of_eq hg.symm)) hb); have n1_ := Aside0.mk (Kd.N_below (Kd.N_elderB (by (with_reducible repeat (first | apply Kd.N_alloc | apply Kd.N_drewN | apply Kd.N_drew)); exact HO_3.out) gb161 (Nat.le_of_eq hg.symm)) hb); have n2_ := Aside0.mk (Kd.V_below (Kd.V_elderB (by (with_reducible repeat (first | apply Kd.V_alloc | apply Kd.V_drewN | apply Kd.V_drew)); exact HL160_3.out) gb161 (Nat.le_of_eq hg.symm)) hb); have n3_ := Aside0.mk (Kd.C_below (by repeat (first | (with_reducible exact HR160_3.out) | (with_reducible refine Kd.C_alloc ?_ _) | (with_reducible refine Kd.C_drewN ?_ _) | (with_reducible refine Kd.C_drew ?_) | exact HR160_3.out)) hb); have n4_ := Aside0.mk (below_step (by repeat (first | (with_reducible first | exact HB.out | apply below_alloc | apply pw_below_drewN | apply below_drew1) | exact HB.out)) hb); have n5_ := Aside0.mk (hbox); have n6_ := Aside0.mk ((by rw [hg]; exact (below_size (by repeat (first | (with_reducible first | exact HB.out | apply below_alloc | apply pw_below_drewN | apply below_drew1) | exact HB.out))) : w.heap.size ≤ gb161)); have n7_ := Aside0.mk ((by rw [hg]; exact (below_size (by repeat (first | (with_reducible first | exact HB.out | apply below_alloc | apply pw_below_drewN | apply below_drew1) | exact HB.out))) : w.heap.size ≤ gb161)); clear HO_0; clear HO_3; clear HL160_3; clear HR160_3; clear HB; have HO_0 := n0_; have HO_3 := n1_; have HL160_3 := n2_; have HR160_3 := n3_; have HB := n4_; have BK161 := n5_; have GW161 := n6_; have GE161 := n7_; clear n0_ n1_ n2_ n3_ n4_ n5_ n6_ n7_; clear hb hbox hg; have hcz6_0 : w5.cell? ⟨gb161, 0, none⟩ = some (.int .i64 0) := (blk_cell BK161.out 0).trans rfl; have hcz6_1 : w5.cell? ⟨gb161, 1, none⟩ = some (.int .i64 0) := (blk_cell BK161.out 1).trans rfl; have hcz6_2 : w5.cell? ⟨gb161, 2, none⟩ = some (.int .i64 0) := (blk_cell BK161.out 2).trans rfl; have hcz6_3 : w5.cell? ⟨gb161, 3, none⟩ = some (.slice none 0 0) := (blk_cell BK161.out 3).trans rfl; have hcz6_4 : w5.cell? ⟨gb161, 4, none⟩ = some (.string (⟨#[]⟩ : ByteArray)) := (blk_cell BK161.out 4).trans rfl; have hcz6_5 : w5.cell? ⟨gb161, 5, none⟩ = some (.int .i64 0) := (blk_cell BK161.out 5).trans rfl; have hfz6_0 := blk_frozen BK161.out 0; have hfz6_1 := blk_frozen BK161.out 1; have hfz6_2 := blk_frozen BK161.out 2; have hfz6_3 := blk_frozen BK161.out 3; have hfz6_4 := blk_frozen BK161.out 4; have hfz6_5 := blk_frozen BK161.out 5) | ((with_reducible refine gate_store (t := 32) (p := 5) rfl ?_); refine store_event (t := 32) (p := 5) (v := ?vo_w7) (w1 := ((((((w5.setCell ⟨gb161, 0, none⟩ (.int .i64 ((rd_T32 l0 x4_1).f0))).setCell ⟨gb161, 1, none⟩ (.int .i64 ((rd_T32 l0 x4_1).f1))).setCell ⟨gb161, 2, none⟩ (.int .i64 ((rd_T32 l0 x4_1).f2))).setCell ⟨gb161, 3, none⟩ (.slice A160_3 ((rd_T32 l0 x4_1).f3).length c160_3)).setCell ⟨gb161, 4, none⟩ (.string ((rd_T32 l0 x4_1).f4))).setCell ⟨gb161, 5, none⟩ (.int .i64 ((rd_T32 l0 x4_1).f5)))) ?hg ?ho ?hn ?hr ?_; (case ho => rfl); (case hg => rfl); (case hn => rfl); (case hr => first | (go_simp; done) | (go_simp; rfl)); intro w7 hw; have n0_ : Aside0 (Kd.V k32 32 w7 w.heap.size (fun k_ => (P0_ k_ ∨ w.heap.size ≤ k_) ∧ some k_ ≠ (u3 : Value).ownBlock ∧ k_ ≠ gb161) (.slice (some ad160) l0.length c0) l0) := ⟨(by rw [hw]; exact (by (with_reducible repeat (first | apply Kd.V_alloc | apply Kd.V_drewN | apply Kd.V_drew)); exact Kd.V_mono (Kd.V_far (p := ⟨gb161, 5, none⟩) (Kd.V_far (p := ⟨gb161, 4, none⟩) (Kd.V_far (p := ⟨gb161, 3, none⟩) (Kd.V_far (p := ⟨gb161, 2, none⟩) (Kd.V_far (p := ⟨gb161, 1, none⟩) (Kd.V_far (p := ⟨gb161, 0, none⟩) (Kd.V_mono HO_0.out (fun k_ hk => (⟨hk, hk.2⟩ : _ ∧ k_ ≠ gb161))) (fun _ hk => hk.2) (.int .i64 ((rd_T32 l0 x4_1).f0))) (fun _ hk => hk.2) (.int .i64 ((rd_T32 l0 x4_1).f1))) (fun _ hk => hk.2) (.int .i64 ((rd_T32 l0 x4_1).f2))) (fun _ hk => hk.2) (.slice A160_3 ((rd_T32 l0 x4_1).f3).length c160_3)) (fun _ hk => hk.2) (.string ((rd_T32 l0 x4_1).f4))) (fun _ hk => hk.2) (.int .i64 ((rd_T32 l0 x4_1).f5))) (fun _ hk => ⟨hk.1.1.1, ⟨hk.1.1.2, hk.1.2⟩⟩)))⟩; have n1_ : Aside0 (Kd.N k50 50 w7 w.heap.size (fun k_ => (P0_ k_ ∨ w.heap.size ≤ k_) ∧ k_ ≠ gb161) u3 x3_1) := ⟨(by rw [hw]; exact (by (with_reducible repeat (first | apply Kd.N_alloc | apply Kd.N_drewN | apply Kd.N_drew)); exact Kd.N_mono (Kd.N_far (p := ⟨gb161, 5, none⟩) (Kd.N_far (p := ⟨gb161, 4, none⟩) (Kd.N_far (p := ⟨gb161, 3, none⟩) (Kd.N_far (p := ⟨gb161, 2, none⟩) (Kd.N_far (p := ⟨gb161, 1, none⟩) (Kd.N_far (p := ⟨gb161, 0, none⟩) (Kd.N_mono HO_3.out (fun k_ hk => (⟨hk, hk.2⟩ : _ ∧ k_ ≠ gb161))) (fun _ hk => hk.2) (.int .i64 ((rd_T32 l0 x4_1).f0))) (fun _ hk => hk.2) (.int .i64 ((rd_T32 l0 x4_1).f1))) (fun _ hk => hk.2) (.int .i64 ((rd_T32 l0 x4_1).f2))) (fun _ hk => hk.2) (.slice A160_3 ((rd_T32 l0 x4_1).f3).length c160_3)) (fun _ hk => hk.2) (.string ((rd_T32 l0 x4_1).f4))) (fun _ hk => hk.2) (.int .i64 ((rd_T32 l0 x4_1).f5))) (fun _ hk => ⟨hk.1.1, hk.1.2⟩)))⟩; have n2_ : Aside0 (Kd.V (Kd.int .u8) 5 w7 w.heap.size (fun k_ => (P0_ k_ ∨ w.heap.size ≤ k_) ∧ some k_ ≠ (u3 : Value).ownBlock ∧ k_ ≠ gb161) (.slice A160_3 ((rd_T32 l0 x4_1).f3).length c160_3) ((rd_T32 l0 x4_1).f3)) := ⟨(by rw [hw]; exact (by (with_reducible repeat (first | apply Kd.V_alloc | apply Kd.V_drewN | apply Kd.V_drew)); exact Kd.V_mono (Kd.V_far (p := ⟨gb161, 5, none⟩) (Kd.V_far (p := ⟨gb161, 4, none⟩) (Kd.V_far (p := ⟨gb161, 3, none⟩) (Kd.V_far (p := ⟨gb161, 2, none⟩) (Kd.V_far (p := ⟨gb161, 1, none⟩) (Kd.V_far (p := ⟨gb161, 0, none⟩) (Kd.V_mono HL160_3.out (fun k_ hk => (⟨hk, hk.2⟩ : _ ∧ k_ ≠ gb161))) (fun _ hk => hk.2) (.int .i64 ((rd_T32 l0 x4_1).f0))) (fun _ hk => hk.2) (.int .i64 ((rd_T32 l0 x4_1).f1))) (fun _ hk => hk.2) (.int .i64 ((rd_T32 l0 x4_1).f2))) (fun _ hk => hk.2) (.slice A160_3 ((rd_T32 l0 x4_1).f3).length c160_3)) (fun _ hk => hk.2) (.string ((rd_T32 l0 x4_1).f4))) (fun _ hk => hk.2) (.int .i64 ((rd_T32 l0 x4_1).f5))) (fun _ hk => ⟨hk.1.1.1, ⟨hk.1.1.2, hk.1.2⟩⟩)))⟩; have n3_ : Aside0 (w7.heap[gb161]? = some (.cells #[.int .i64 ((rd_T32 l0 x4_1).f0), .int .i64 ((rd_T32 l0 x4_1).f1), .int .i64 ((rd_T32 l0 x4_1).f2), .slice A160_3 ((rd_T32 l0 x4_1).f3).length c160_3, .string ((rd_T32 l0 x4_1).f4), .int .i64 ((rd_T32 l0 x4_1).f5)] 32 (0, 0))) := ⟨(by rw [hw]; exact (by (with_reducible repeat (first | refine blk_drewN ?_ _ | refine blk_drew ?_ | refine blk_alloc ?_ _)); refine blk_put (cs := #[.int .i64 ((rd_T32 l0 x4_1).f0), .int .i64 ((rd_T32 l0 x4_1).f1), .int .i64 ((rd_T32 l0 x4_1).f2), .slice A160_3 ((rd_T32 l0 x4_1).f3).length c160_3, .string ((rd_T32 l0 x4_1).f4), .int .i64 0]) ?_ 5 _ rfl; (with_reducible repeat (first | refine blk_drewN ?_ _ | refine blk_drew ?_ | refine blk_alloc ?_ _)); refine blk_put (cs := #[.int .i64 ((rd_T32 l0 x4_1).f0), .int .i64 ((rd_T32 l0 x4_1).f1), .int .i64 ((rd_T32 l0 x4_1).f2), .slice A160_3 ((rd_T32 l0 x4_1).f3).length c160_3, .string (⟨#[]⟩ : ByteArray), .int .i64 0]) ?_ 4 _ rfl; (with_reducible repeat (first | refine blk_drewN ?_ _ | refine blk_drew ?_ | refine blk_alloc ?_ _)); refine blk_put (cs := #[.int .i64 ((rd_T32 l0 x4_1).f0), .int .i64 ((rd_T32 l0 x4_1).f1), .int .i64 ((rd_T32 l0 x4_1).f2), .slice none 0 0, .string (⟨#[]⟩ : ByteArray), .int .i64 0]) ?_ 3 _ rfl; (with_reducible repeat (first | refine blk_drewN ?_ _ | refine blk_drew ?_ | refine blk_alloc ?_ _)); refine blk_put (cs := #[.int .i64 ((rd_T32 l0 x4_1).f0), .int .i64 ((rd_T32 l0 x4_1).f1), .int .i64 0, .slice none 0 0, .string (⟨#[]⟩ : ByteArray), .int .i64 0]) ?_ 2 _ rfl; (with_reducible repeat (first | refine blk_drewN ?_ _ | refine blk_drew ?_ | refine blk_alloc ?_ _)); refine blk_put (cs := #[.int .i64 ((rd_T32 l0 x4_1).f0), .int .i64 0, .int .i64 0, .slice none 0 0, .string (⟨#[]⟩ : ByteArray), .int .i64 0]) ?_ 1 _ rfl; (with_reducible repeat (first | refine blk_drewN ?_ _ | refine blk_drew ?_ | refine blk_alloc ?_ _)); refine blk_put (cs := #[.int .i64 0, .int .i64 0, .int .i64 0, .slice none 0 0, .string (⟨#[]⟩ : ByteArray), .int .i64 0]) ?_ 0 _ rfl; (with_reducible repeat (first | refine blk_drewN ?_ _ | refine blk_drew ?_ | refine blk_alloc ?_ _)); exact BK161.out))⟩; have n4_ : Aside0 (Below w.heap.size w w7) := ⟨(by rw [hw]; exact (by repeat (first | (with_reducible first | exact HB.out | apply below_alloc | apply pw_below_drewN | apply below_drew1 | refine below_set ?_ GE161.out) | exact HB.out)))⟩; clear hw; clear HO_0; clear HO_3; clear HL160_3; clear BK161; clear HB; have HO_0 := n0_; have HO_3 := n1_; have HL160_3 := n2_; have BK161 := n3_; have HB := n4_; clear n0_ n1_ n2_ n3_ n4_; have hcz8_0 : w7.cell? ⟨gb161, 0, none⟩ = some (.int .i64 ((rd_T32 l0 x4_1).f0)) := (blk_cell BK161.out 0).trans rfl; have hcz8_1 : w7.cell? ⟨gb161, 1, none⟩ = some (.int .i64 ((rd_T32 l0 x4_1).f1)) := (blk_cell BK161.out 1).trans rfl; have hcz8_2 : w7.cell? ⟨gb161, 2, none⟩ = some (.int .i64 ((rd_T32 l0 x4_1).f2)) := (blk_cell BK161.out 2).trans rfl; have hcz8_3 : w7.cell? ⟨gb161, 3, none⟩ = some (.slice A160_3 ((rd_T32 l0 x4_1).f3).length c160_3) := (blk_cell BK161.out 3).trans rfl; have hcz8_4 : w7.cell? ⟨gb161, 4, none⟩ = some (.string ((rd_T32 l0 x4_1).f4)) := (blk_cell BK161.out 4).trans rfl; have hcz8_5 : w7.cell? ⟨gb161, 5, none⟩ = some (.int .i64 ((rd_T32 l0 x4_1).f5)) := (blk_cell BK161.out 5).trans rfl; have hfz8_0 := blk_frozen BK161.out 0; have hfz8_1 := blk_frozen BK161.out 1; have hfz8_2 := blk_frozen BK161.out 2; have hfz8_3 := blk_frozen BK161.out 3; have hfz8_4 := blk_frozen BK161.out 4; have hfz8_5 := blk_frozen BK161.out 5) | ((with_reducible refine gate_builtin (b := .append) (xs := #[.tmp 16, .tmp 30]) rfl ?_); at_builtin; refine Kd.N_append k50 (w0 := w) w.heap.size rfl (.tmp 16) (.tmp 30) 27 50 (.agg #[(.int .i64 0), (.int .i64 0), (.int .i64 0), (.slice none 0 0), (.string ⟨#[]⟩), (.int .i64 0)]) 72 rfl Try.underlying27 info50 rfl (by decide) (by omega) u3 x3_1 (⟨(rd_T32 l0 x4_1).f0, (rd_T32 l0 x4_1).f1, (rd_T32 l0 x4_1).f2, (rd_T32 l0 x4_1).f3, (rd_T32 l0 x4_1).f4, (rd_T32 l0 x4_1).f5⟩ : S50) [.int .i64 ((rd_T32 l0 x4_1).f0), .int .i64 ((rd_T32 l0 x4_1).f1), .int .i64 ((rd_T32 l0 x4_1).f2), .slice A160_3 ((rd_T32 l0 x4_1).f3).length c160_3, .string ((rd_T32 l0 x4_1).f4), .int .i64 ((rd_T32 l0 x4_1).f5)] (fun k_ => (P0_ k_ ∨ w.heap.size ≤ k_) ∧ k_ ≠ gb161) (fun k_ => ((fun k_ => (P0_ k_ ∨ w.heap.size ≤ k_) ∧ k_ ≠ gb161)) k_ ∧ some k_ ≠ (u3 : Value).ownBlock) rfl rfl ?aP (fun _ hk => hk) ?aF ?aO ?aB ?aS ?aL ?_; (case aP => exact (k50_mkF _ _ (⟨(rd_T32 l0 x4_1).f0, (rd_T32 l0 x4_1).f1, (rd_T32 l0 x4_1).f2, (rd_T32 l0 x4_1).f3, (rd_T32 l0 x4_1).f4, (rd_T32 l0 x4_1).f5⟩ : S50) (Kd.V_reads' (Kd.V_mono (ok' := (fun k_ => ((fun k_ => (P0_ k_ ∨ w.heap.size ≤ k_) ∧ k_ ≠ gb161)) k_ ∧ some k_ ≠ (u3 : Value).ownBlock)) (HL160_3.out) (fun k_ hk => ⟨⟨hk.1, hk.2.2⟩, hk.2.1⟩))).2.1 (Kd.V_F (Kd.V_mono (ok' := (fun k_ => ((fun k_ => (P0_ k_ ∨ w.heap.size ≤ k_) ∧ k_ ≠ gb161)) k_ ∧ some k_ ≠ (u3 : Value).ownBlock)) (HL160_3.out) (fun k_ hk => ⟨⟨hk.1, hk.2.2⟩, hk.2.1⟩))))); (case aB => exact (by repeat (first | (with_reducible first | exact HB.out | apply below_alloc | apply pw_below_drewN | apply below_drew1 | refine below_set ?_ GE161.out) | exact HB.out))); (case aF => exact (fun k_ hk => ⟨(.inr (Nat.le_trans (below_size (by repeat (first | (with_reducible first | exact HB.out | apply below_alloc | apply pw_below_drewN | apply below_drew1 | refine below_set ?_ GE161.out) | exact HB.out))) hk)), Kd.freshB (g := gb161) (o := .cells #[.int .i64 ((rd_T32 l0 x4_1).f0), .int .i64 ((rd_T32 l0 x4_1).f1), .int .i64 ((rd_T32 l0 x4_1).f2), .slice A160_3 ((rd_T32 l0 x4_1).f3).length c160_3, .string ((rd_T32 l0 x4_1).f4), .int .i64 ((rd_T32 l0 x4_1).f5)] 32 (0, 0)) (by (with_reducible repeat (first | refine blk_drewN ?_ _ | refine blk_drew ?_ | refine blk_alloc ?_ _)); exact BK161.out) k_ hk⟩)); (case aO => exact (by (with_reducible repeat (first | apply Kd.N_alloc | apply Kd.N_drewN | apply Kd.N_drew)); exact HO_3.out)); (case aS => exact (below_size (by repeat (first | (with_reducible first | exact HB.out | apply below_alloc | apply pw_below_drewN | apply below_drew1 | refine below_set ?_ GE161.out) | exact HB.out)))); (case aL => have := LMc4.out; omega); intro v163 w9 ho hb hg hat; rw [← Ny162.out] at ho; have n0_ := Aside0.mk (Kd.V_afterv (ok := (fun k_ => (P0_ k_ ∨ w.heap.size ≤ k_) ∧ k_ ≠ gb161)) (by (with_reducible repeat (first | apply Kd.V_alloc | apply Kd.V_drewN | apply Kd.V_drew)); exact Kd.V_mono HO_0.out (fun _ hk => ⟨⟨hk.1, hk.2.2⟩, hk.2.1⟩)) hg hat); have n1_ := Aside0.mk (Kd.V_afterv (ok := (fun k_ => (P0_ k_ ∨ w.heap.size ≤ k_) ∧ k_ ≠ gb161)) (by (with_reducible repeat (first | apply Kd.V_alloc | apply Kd.V_drewN | apply Kd.V_drew)); exact Kd.V_mono HL160_3.out (fun _ hk => ⟨⟨hk.1, hk.2.2⟩, hk.2.1⟩)) hg hat); have n2_ := Aside0.mk (blk_grown (g := gb161) (o := .cells #[.int .i64 ((rd_T32 l0 x4_1).f0), .int .i64 ((rd_T32 l0 x4_1).f1), .int .i64 ((rd_T32 l0 x4_1).f2), .slice A160_3 ((rd_T32 l0 x4_1).f3).length c160_3, .string ((rd_T32 l0 x4_1).f4), .int .i64 ((rd_T32 l0 x4_1).f5)] 32 (0, 0)) (by (with_reducible repeat (first | refine blk_drewN ?_ _ | refine blk_drew ?_ | refine blk_alloc ?_ _)); exact BK161.out) hg (Kd.N_ne HO_3.out BK161.out (by decide))); have n3_ := Aside0.mk (hb); have n4_ := Aside0.mk (ho); clear HO_0; clear HL160_3; clear BK161; clear HB; clear HO_3; have HO_0 := n0_; have HL160_3 := n1_; have BK161 := n2_; have HB := n3_; have HO164 := n4_; clear n0_ n1_ n2_ n3_ n4_; clear ho hb hg hat))
            go_roundg k1
            case measure => have := HK1.out; omega
            case rel => exact ⟨(y162), (wrap64 (x4_1 + 1)), (by first | rfl | (simp; done) | (simp [*]; done)), H', ⟨by have := HK1.out; omega⟩, ⟨by (with_reducible repeat (first | apply Kd.V_alloc | apply Kd.V_drewN | apply Kd.V_drew)); exact Kd.V_mono HO_0.out (fun _ hk => ⟨hk.1.1, hk.2⟩)⟩, ⟨by (with_reducible repeat (first | apply Kd.N_alloc | apply Kd.N_drewN | apply Kd.N_drew)); exact Kd.N_mono HO164.out (fun _ hk => hk.1)⟩, ⟨by repeat (first | (with_reducible first | exact HB.out | apply below_alloc | apply pw_below_drewN | apply below_drew1 | refine below_set ?_ GE161.out) | exact HB.out)⟩⟩
          · rw [if_neg c4] at H
            exact absurd H (by simp)
        · rw [if_neg c3] at H
          exact absurd H (by simp)
      · rw [if_neg c2] at H
        have c2b0 : decide (x4_1 < (l0.length : Int)) = false := decide_eq_false c2
        clear c2
        obtain rfl := Option.some.inj H
        go_wp2
        go_ret
        exact ⟨_, by first | rfl | (simp [errW_none, errW_some] <;> rfl) | (simp [*, errW_none, errW_some] <;> rfl), by (with_reducible repeat (first | apply Kd.N_alloc | apply Kd.N_drewN | apply Kd.N_drew)); exact HO_3.out, by repeat (first | (with_reducible first | exact HB.out | apply below_alloc | apply pw_below_drewN | apply below_drew1) | exact HB.out)⟩

end Go.Proofs.Ytacdocchcfbgcaa.Q
