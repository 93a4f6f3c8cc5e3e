-- printed by wip/mp.py (the kit's print, with given functions); Lean checks it
import Derived.Test.YtacdocchcfbgcaaQx0
import Derived.Test.YtacdocchcfbgcaaQx7
namespace Go.Proofs.Ytacdocchcfbgcaa.Q
open Go.RowKit Go.Proofs.YtacdocchcfbgcaaW.PrintWords Go.Proofs.YtacdocchcfbgcaaW.PrintLast Go.Proofs.YtacdocchcfbgcaaW.PrintMore
attribute [local go_sem] max2_int min2_int max_two min_two max_three min_three max_four min_four   -- for this text's walks alone
set_option linter.unusedVariables false
set_option linter.unusedSimpArgs false

/-! ### dolmenlaw14_made: function 27 -/
def dolmenlaw14_made.l0 : Nat → List (S32) → List (S50) → Int → Option ((List (S50)))
  | 0, _, _, _ => none
  | k + 1, x0, x3, x4 => if x4 < (x0.length : Int) then (if 0 ≤ x4 then (if x3.length < 1954687338268 then (dolmenlaw14_made.l0 k x0 (x3 ++ [(⟨(rd_T32 x0 x4).f0, (rd_T32 x0 x4).f1, (rd_T32 x0 x4).f2, (rd_T32 x0 x4).f3, (rd_T32 x0 x4).f4, (rd_T32 x0 x4).f5⟩ : S50)]) (wrap64 (x4 + 1))) else (none)) else (none)) else (some x3)
def dolmenlaw14_made.f (k : Nat) (l0 : List (S32)) : Option ((List (S50))) := dolmenlaw14_made.l0 k l0 ([] : List (S50)) 0
theorem dolmenlaw14_made.mono_l : ∀ k, (∀ y0 y1 y2, LeO (dolmenlaw14_made.l0 k y0 y1 y2) (dolmenlaw14_made.l0 (k + 1) y0 y1 y2))
  | 0 => fun _ _ _ r h => by simp [dolmenlaw14_made.l0] at h
  | k + 1 => by
    have ih0 := dolmenlaw14_made.mono_l k
    · intro y0 y1 y2
      unfold dolmenlaw14_made.l0
      repeat' first
      | (with_reducible exact ih0 _ _ _)
      | (with_reducible exact LeO.refl _)
      | (with_reducible exact LeO.none _)
      | (with_reducible refine LeO.ite ?_ ?_)
      | (with_reducible refine LeO.bind ?_ (fun _ => ?_))
      | exact ih0 _ _ _
      | exact LeO.none _
      | refine LeO.ite ?_ ?_
      | refine LeO.bind ?_ (fun _ => ?_)
theorem dolmenlaw14_made.mono : ∀ a0 k, LeO (dolmenlaw14_made.f k a0) (dolmenlaw14_made.f (k + 1) a0) := by
  intro a0 k
  have ih0 := dolmenlaw14_made.mono_l k
  unfold dolmenlaw14_made.f
  repeat' first
      | (with_reducible exact ih0 _ _ _)
      | (with_reducible exact LeO.refl _)
      | (with_reducible exact LeO.none _)
      | (with_reducible refine LeO.ite ?_ ?_)
      | (with_reducible refine LeO.bind ?_ (fun _ => ?_))
      | exact ih0 _ _ _
      | exact LeO.none _
      | refine LeO.ite ?_ ?_
      | refine LeO.bind ?_ (fun _ => ?_)
set_option maxHeartbeats 8000000 in
set_option maxRecDepth 100000 in
theorem dolmenlaw14_made.calls (k : Nat) (P0_ : Nat → Prop) (A0 : Option Addr) (c0 : Nat) (l0 : List (S32)) (r : List (S50)) (w : World) (hs0 : Kd.V k32 32 w w.heap.size (fun k_ => P0_ k_) (.slice A0 l0.length c0) l0) (h : dolmenlaw14_made.f k l0 = some r) :
    Calls Try.prog 27 #[.slice A0 l0.length c0] w fun e w' => ∃ v0_ : Value, e = .returned (v0_) ∧ Kd.N k50 50 w' w.heap.size (fun k_ => (P0_ k_ ∨ w.heap.size ≤ k_)) v0_ r ∧ Below w.heap.size w w' := by
  have hu32 := Try.underlying32
  have hu50 := Try.underlying50
  have HO0 := Aside0.mk (show Kd.V k32 32 w w.heap.size (fun k_ => (P0_ k_ ∨ w.heap.size ≤ k_)) (.slice A0 l0.length c0) l0 from Kd.V_mono hs0 (fun k_ hk => .inl hk))
  have HB := Aside0.mk (Below.refl w.heap.size w)
  have H : (dolmenlaw14_made.l0 k l0 ([] : List (S50)) 0) = some r := h
  clear h
  have H' := Aside0.mk H
  clear H
  go_enter Try.func27, Try.ntmps27
  go_wp2
  go_loopg [3, 4] k (fun kq v3 v4 w' => ∃ (x3_1 : List (S50)) (x4_1 : Int), v4 = .int .i64 x4_1 ∧ Aside0 (dolmenlaw14_made.l0 kq l0 x3_1 x4_1 = some r) ∧ Aside0 (kq ≤ k) ∧ Aside0 (Kd.V k32 32 w' w.heap.size (fun k_ => (P0_ k_ ∨ w.heap.size ≤ k_) ∧ some k_ ≠ (v3 : Value).ownBlock) (.slice A0 l0.length c0) l0) ∧ Aside0 (Kd.N k50 50 w' w.heap.size (fun k_ => (P0_ k_ ∨ w.heap.size ≤ k_)) v3 x3_1) ∧ Aside0 (Below w.heap.size w w'))
  case atStart => exact ⟨(([] : List (S50))), (0), (by first | rfl | (simp; done) | (simp [*]; done)), H', ⟨Nat.le_refl _⟩, ⟨by (with_reducible repeat (first | apply Kd.V_alloc | apply Kd.V_drewN | apply Kd.V_drew)); exact Kd.V_mono HO0.out (fun _ hk => ⟨hk, (by simp [Value.ownBlock])⟩)⟩, ⟨by first | exact Kd.S_nil _ _ _ _ _ | exact Kd.N_nil _ _ _ _ _ | exact Kd.V_nil _ _ _ _ _ | exact Kd.Q_nil _ _ _ _ _ | exact Kd.R_nil _ _ _ _ _⟩, ⟨by repeat (first | (with_reducible first | exact HB.out | apply below_alloc | apply pw_below_drewN | apply below_drew1) | exact HB.out)⟩⟩
  case round =>
    clear H'
    obtain ⟨x3_1, x4_1, rfl, HA, HK1, HO_0, HO_3, HB⟩ := hrel
    cases gk with
    | zero => exact absurd HA.out (by simp [dolmenlaw14_made.l0])
    | succ k1 =>
      have H := HA.out
      clear HA
      simp only [dolmenlaw14_made.l0] at H
      by_cases c2 : x4_1 < (l0.length : Int)
      · rw [if_pos c2] at H
        have c2b0 : decide (x4_1 < (l0.length : Int)) = true := decide_eq_true c2
        clear c2
        by_cases c3 : 0 ≤ x4_1
        · rw [if_pos c3] at H
          have c3b0 : decide (0 ≤ x4_1) = true := decide_eq_true c3
          clear c3
          by_cases c4 : x3_1.length < 1954687338268
          · rw [if_pos c4] at H
            have LMc4 := Aside0.mk c4
            clear c4
            obtain ⟨y160, hy160⟩ : ∃ y_ : List (S50), y_ = (x3_1 ++ [(⟨(rd_T32 l0 x4_1).f0, (rd_T32 l0 x4_1).f1, (rd_T32 l0 x4_1).f2, (rd_T32 l0 x4_1).f3, (rd_T32 l0 x4_1).f4, (rd_T32 l0 x4_1).f5⟩ : S50)]) := ⟨_, rfl⟩
            replace H : (dolmenlaw14_made.l0 k1 l0 y160 (wrap64 (x4_1 + 1))) = some r := by first | (rw [hy160]; with_reducible exact H) | (have H2_ := (Option.bind_some _ _).symm.trans H; rw [hy160]; with_reducible exact H2_) | (have H2_ := (Option.bind_some _ _).symm.trans H; with_reducible exact H2_) | with_reducible exact H | (rw [hy160]; exact H) | exact H
            have Ny160 := Aside0.mk hy160
            clear hy160
            have H' := Aside0.mk H
            clear H
            have p158 : 0 ≤ (x4_1 : Int) := of_decide_eq_true (by first | (with_reducible assumption) | assumption)
            have q158 : x4_1 < (l0.length : Int) := of_decide_eq_true (by first | (with_reducible assumption) | assumption)
            obtain ⟨ad158, A158_3, c158_3, e158, hx158_0, hx158_1, hx158_2, hx158_3, hx158_4, hx158_5, hl158_3, hi158_3⟩ := at_T32 (Kd.V_reads' HO_0.out).2.2 x4_1 p158 q158
            cases e158
            obtain ⟨ce158, hce158, hMe158, hcc158⟩ := Kd.V_get HO_0.out z32 x4_1 p158 (by first | exact q158 | exact of_decide_eq_true (by first | (with_reducible assumption) | assumption) | (have e_ := (Kd.V_reads' HO_0.out).1; omega))
            obtain ⟨ua158_3, uc158_3, rfl, ul158_3, ge158_3⟩ := k32_openF hMe158
            have hv158_3 := hcc158 3 _ rfl
            rw [add_field _ _ 3 (by omega)] at hv158_3
            replace hv158_3 := Option.some.inj (hv158_3.symm.trans hx158_3)
            injection hv158_3 with hva_ hvn_ hvc_
            rw [hva_] at ge158_3
            rw [hvc_] at ul158_3
            have HL158_3 := Aside0.mk (show Kd.V (Kd.int .u8) 5 _ w.heap.size _ _ ((rd_T32 l0 x4_1).f3) from Kd.V_mk ul158_3 ge158_3)
            clear hva_ hvn_ hvc_ ge158_3 ul158_3
            clear hcc158 hce158
            have HR158_3 := Aside0.mk hi158_3
            have HC158_3 := Aside0.mk hl158_3
            clear hi158_3 hl158_3
            replace p158 := eq_true p158
            replace q158 := eq_true q158
            go_wp2_with (first | ((with_reducible refine gate_dst (N := 5) rfl ?_); refine box_event ?hg (N := 5) ?hd (cs := #[.int .i64 0, .int .i64 0, .int .i64 0, .slice none 0 0, .string (⟨#[]⟩ : ByteArray), .int .i64 0]) (t := 32) ?hr ?_; (case hd => rfl); (case hg => rfl); (case hr => first | (go_simp; done) | (go_simp; rfl)); intro gb159 hg w5 hbox hb; have n0_ := Aside0.mk (Kd.V_below (Kd.V_elderB (by (with_reducible repeat (first | apply Kd.V_alloc | apply Kd.V_drewN | apply Kd.V_drew)); exact HO_0.out) gb159 (Nat.le_of_eq hg.symm)) hb); have n1_ := Aside0.mk (Kd.N_below (Kd.N_elderB (by (with_reducible repeat (first | apply Kd.N_alloc | apply Kd.N_drewN | apply Kd.N_drew)); exact HO_3.out) gb159 (Nat.le_of_eq hg.symm)) hb); have n2_ := Aside0.mk (Kd.V_below (Kd.V_elderB (by (with_reducible repeat (first | apply Kd.V_alloc | apply Kd.V_drewN | apply Kd.V_drew)); exact HL158_3.out) gb159 (Nat.le_of_eq hg.symm)) hb); have n3_ := Aside0.mk (Kd.C_below (by repeat (first | (with_reducible exact HR158_3.out) | (with_reducible refine Kd.C_alloc ?_ _) | (with_reducible refine Kd.C_drewN ?_ _) | (with_reducible refine Kd.C_drew ?_) | exact HR158_3.out)) hb); have n4_ := Aside0.mk (below_step (by repeat (first | (with_reducible first | exact HB.out | apply below_alloc | apply pw_below_drewN | apply below_drew1) | exact HB.out)) hb); have n5_ := Aside0.mk (hbox); have n6_ := Aside0.mk ((by rw [hg]; exact (below_size (by repeat (first | (with_reducible first | exact HB.out | apply below_alloc | apply pw_below_drewN | apply below_drew1) | exact HB.out))) : w.heap.size ≤ gb159)); have n7_ := Aside0.mk ((by rw [hg]; exact (below_size (by repeat (first | (with_reducible first | exact HB.out | apply below_alloc | apply pw_below_drewN | apply below_drew1) | exact HB.out))) : w.heap.size ≤ gb159)); clear HO_0; clear HO_3; clear HL158_3; clear HR158_3; clear HB; have HO_0 := n0_; have HO_3 := n1_; have HL158_3 := n2_; have HR158_3 := n3_; have HB := n4_; have BK159 := n5_; have GW159 := n6_; have GE159 := n7_; clear n0_ n1_ n2_ n3_ n4_ n5_ n6_ n7_; clear hb hbox hg; have hcz6_0 : w5.cell? ⟨gb159, 0, none⟩ = some (.int .i64 0) := (blk_cell BK159.out 0).trans rfl; have hcz6_1 : w5.cell? ⟨gb159, 1, none⟩ = some (.int .i64 0) := (blk_cell BK159.out 1).trans rfl; have hcz6_2 : w5.cell? ⟨gb159, 2, none⟩ = some (.int .i64 0) := (blk_cell BK159.out 2).trans rfl; have hcz6_3 : w5.cell? ⟨gb159, 3, none⟩ = some (.slice none 0 0) := (blk_cell BK159.out 3).trans rfl; have hcz6_4 : w5.cell? ⟨gb159, 4, none⟩ = some (.string (⟨#[]⟩ : ByteArray)) := (blk_cell BK159.out 4).trans rfl; have hcz6_5 : w5.cell? ⟨gb159, 5, none⟩ = some (.int .i64 0) := (blk_cell BK159.out 5).trans rfl; have hfz6_0 := blk_frozen BK159.out 0; have hfz6_1 := blk_frozen BK159.out 1; have hfz6_2 := blk_frozen BK159.out 2; have hfz6_3 := blk_frozen BK159.out 3; have hfz6_4 := blk_frozen BK159.out 4; have hfz6_5 := blk_frozen BK159.out 5) | ((with_reducible refine gate_store (t := 32) (p := 5) rfl ?_); refine store_event (t := 32) (p := 5) (v := ?vo_w7) (w1 := ((((((w5.setCell ⟨gb159, 0, none⟩ (.int .i64 ((rd_T32 l0 x4_1).f0))).setCell ⟨gb159, 1, none⟩ (.int .i64 ((rd_T32 l0 x4_1).f1))).setCell ⟨gb159, 2, none⟩ (.int .i64 ((rd_T32 l0 x4_1).f2))).setCell ⟨gb159, 3, none⟩ (.slice A158_3 ((rd_T32 l0 x4_1).f3).length c158_3)).setCell ⟨gb159, 4, none⟩ (.string ((rd_T32 l0 x4_1).f4))).setCell ⟨gb159, 5, none⟩ (.int .i64 ((rd_T32 l0 x4_1).f5)))) ?hg ?ho ?hn ?hr ?_; (case ho => rfl); (case hg => rfl); (case hn => rfl); (case hr => first | (go_simp; done) | (go_simp; rfl)); intro w7 hw; have n0_ : Aside0 (Kd.V k32 32 w7 w.heap.size (fun k_ => (P0_ k_ ∨ w.heap.size ≤ k_) ∧ some k_ ≠ (u3 : Value).ownBlock ∧ k_ ≠ gb159) (.slice (some ad158) l0.length c0) l0) := ⟨(by rw [hw]; exact (by (with_reducible repeat (first | apply Kd.V_alloc | apply Kd.V_drewN | apply Kd.V_drew)); exact Kd.V_mono (Kd.V_far (p := ⟨gb159, 5, none⟩) (Kd.V_far (p := ⟨gb159, 4, none⟩) (Kd.V_far (p := ⟨gb159, 3, none⟩) (Kd.V_far (p := ⟨gb159, 2, none⟩) (Kd.V_far (p := ⟨gb159, 1, none⟩) (Kd.V_far (p := ⟨gb159, 0, none⟩) (Kd.V_mono HO_0.out (fun k_ hk => (⟨hk, hk.2⟩ : _ ∧ k_ ≠ gb159))) (fun _ hk => hk.2) (.int .i64 ((rd_T32 l0 x4_1).f0))) (fun _ hk => hk.2) (.int .i64 ((rd_T32 l0 x4_1).f1))) (fun _ hk => hk.2) (.int .i64 ((rd_T32 l0 x4_1).f2))) (fun _ hk => hk.2) (.slice A158_3 ((rd_T32 l0 x4_1).f3).length c158_3)) (fun _ hk => hk.2) (.string ((rd_T32 l0 x4_1).f4))) (fun _ hk => hk.2) (.int .i64 ((rd_T32 l0 x4_1).f5))) (fun _ hk => ⟨hk.1.1.1, ⟨hk.1.1.2, hk.1.2⟩⟩)))⟩; have n1_ : Aside0 (Kd.N k50 50 w7 w.heap.size (fun k_ => (P0_ k_ ∨ w.heap.size ≤ k_) ∧ k_ ≠ gb159) u3 x3_1) := ⟨(by rw [hw]; exact (by (with_reducible repeat (first | apply Kd.N_alloc | apply Kd.N_drewN | apply Kd.N_drew)); exact Kd.N_mono (Kd.N_far (p := ⟨gb159, 5, none⟩) (Kd.N_far (p := ⟨gb159, 4, none⟩) (Kd.N_far (p := ⟨gb159, 3, none⟩) (Kd.N_far (p := ⟨gb159, 2, none⟩) (Kd.N_far (p := ⟨gb159, 1, none⟩) (Kd.N_far (p := ⟨gb159, 0, none⟩) (Kd.N_mono HO_3.out (fun k_ hk => (⟨hk, hk.2⟩ : _ ∧ k_ ≠ gb159))) (fun _ hk => hk.2) (.int .i64 ((rd_T32 l0 x4_1).f0))) (fun _ hk => hk.2) (.int .i64 ((rd_T32 l0 x4_1).f1))) (fun _ hk => hk.2) (.int .i64 ((rd_T32 l0 x4_1).f2))) (fun _ hk => hk.2) (.slice A158_3 ((rd_T32 l0 x4_1).f3).length c158_3)) (fun _ hk => hk.2) (.string ((rd_T32 l0 x4_1).f4))) (fun _ hk => hk.2) (.int .i64 ((rd_T32 l0 x4_1).f5))) (fun _ hk => ⟨hk.1.1, hk.1.2⟩)))⟩; have n2_ : Aside0 (Kd.V (Kd.int .u8) 5 w7 w.heap.size (fun k_ => (P0_ k_ ∨ w.heap.size ≤ k_) ∧ some k_ ≠ (u3 : Value).ownBlock ∧ k_ ≠ gb159) (.slice A158_3 ((rd_T32 l0 x4_1).f3).length c158_3) ((rd_T32 l0 x4_1).f3)) := ⟨(by rw [hw]; exact (by (with_reducible repeat (first | apply Kd.V_alloc | apply Kd.V_drewN | apply Kd.V_drew)); exact Kd.V_mono (Kd.V_far (p := ⟨gb159, 5, none⟩) (Kd.V_far (p := ⟨gb159, 4, none⟩) (Kd.V_far (p := ⟨gb159, 3, none⟩) (Kd.V_far (p := ⟨gb159, 2, none⟩) (Kd.V_far (p := ⟨gb159, 1, none⟩) (Kd.V_far (p := ⟨gb159, 0, none⟩) (Kd.V_mono HL158_3.out (fun k_ hk => (⟨hk, hk.2⟩ : _ ∧ k_ ≠ gb159))) (fun _ hk => hk.2) (.int .i64 ((rd_T32 l0 x4_1).f0))) (fun _ hk => hk.2) (.int .i64 ((rd_T32 l0 x4_1).f1))) (fun _ hk => hk.2) (.int .i64 ((rd_T32 l0 x4_1).f2))) (fun _ hk => hk.2) (.slice A158_3 ((rd_T32 l0 x4_1).f3).length c158_3)) (fun _ hk => hk.2) (.string ((rd_T32 l0 x4_1).f4))) (fun _ hk => hk.2) (.int .i64 ((rd_T32 l0 x4_1).f5))) (fun _ hk => ⟨hk.1.1.1, ⟨hk.1.1.2, hk.1.2⟩⟩)))⟩; have n3_ : Aside0 (w7.heap[gb159]? = some (.cells #[.int .i64 ((rd_T32 l0 x4_1).f0), .int .i64 ((rd_T32 l0 x4_1).f1), .int .i64 ((rd_T32 l0 x4_1).f2), .slice A158_3 ((rd_T32 l0 x4_1).f3).length c158_3, .string ((rd_T32 l0 x4_1).f4), .int .i64 ((rd_T32 l0 x4_1).f5)] 32 (0, 0))) := ⟨(by rw [hw]; exact (by (with_reducible repeat (first | refine blk_drewN ?_ _ | refine blk_drew ?_ | refine blk_alloc ?_ _)); refine blk_put (cs := #[.int .i64 ((rd_T32 l0 x4_1).f0), .int .i64 ((rd_T32 l0 x4_1).f1), .int .i64 ((rd_T32 l0 x4_1).f2), .slice A158_3 ((rd_T32 l0 x4_1).f3).length c158_3, .string ((rd_T32 l0 x4_1).f4), .int .i64 0]) ?_ 5 _ rfl; (with_reducible repeat (first | refine blk_drewN ?_ _ | refine blk_drew ?_ | refine blk_alloc ?_ _)); refine blk_put (cs := #[.int .i64 ((rd_T32 l0 x4_1).f0), .int .i64 ((rd_T32 l0 x4_1).f1), .int .i64 ((rd_T32 l0 x4_1).f2), .slice A158_3 ((rd_T32 l0 x4_1).f3).length c158_3, .string (⟨#[]⟩ : ByteArray), .int .i64 0]) ?_ 4 _ rfl; (with_reducible repeat (first | refine blk_drewN ?_ _ | refine blk_drew ?_ | refine blk_alloc ?_ _)); refine blk_put (cs := #[.int .i64 ((rd_T32 l0 x4_1).f0), .int .i64 ((rd_T32 l0 x4_1).f1), .int .i64 ((rd_T32 l0 x4_1).f2), .slice none 0 0, .string (⟨#[]⟩ : ByteArray), .int .i64 0]) ?_ 3 _ rfl; (with_reducible repeat (first | refine blk_drewN ?_ _ | refine blk_drew ?_ | refine blk_alloc ?_ _)); refine blk_put (cs := #[.int .i64 ((rd_T32 l0 x4_1).f0), .int .i64 ((rd_T32 l0 x4_1).f1), .int .i64 0, .slice none 0 0, .string (⟨#[]⟩ : ByteArray), .int .i64 0]) ?_ 2 _ rfl; (with_reducible repeat (first | refine blk_drewN ?_ _ | refine blk_drew ?_ | refine blk_alloc ?_ _)); refine blk_put (cs := #[.int .i64 ((rd_T32 l0 x4_1).f0), .int .i64 0, .int .i64 0, .slice none 0 0, .string (⟨#[]⟩ : ByteArray), .int .i64 0]) ?_ 1 _ rfl; (with_reducible repeat (first | refine blk_drewN ?_ _ | refine blk_drew ?_ | refine blk_alloc ?_ _)); refine blk_put (cs := #[.int .i64 0, .int .i64 0, .int .i64 0, .slice none 0 0, .string (⟨#[]⟩ : ByteArray), .int .i64 0]) ?_ 0 _ rfl; (with_reducible repeat (first | refine blk_drewN ?_ _ | refine blk_drew ?_ | refine blk_alloc ?_ _)); exact BK159.out))⟩; have n4_ : Aside0 (Below w.heap.size w w7) := ⟨(by rw [hw]; exact (by repeat (first | (with_reducible first | exact HB.out | apply below_alloc | apply pw_below_drewN | apply below_drew1 | refine below_set ?_ GE159.out) | exact HB.out)))⟩; clear hw; clear HO_0; clear HO_3; clear HL158_3; clear BK159; clear HB; have HO_0 := n0_; have HO_3 := n1_; have HL158_3 := n2_; have BK159 := n3_; have HB := n4_; clear n0_ n1_ n2_ n3_ n4_; have hcz8_0 : w7.cell? ⟨gb159, 0, none⟩ = some (.int .i64 ((rd_T32 l0 x4_1).f0)) := (blk_cell BK159.out 0).trans rfl; have hcz8_1 : w7.cell? ⟨gb159, 1, none⟩ = some (.int .i64 ((rd_T32 l0 x4_1).f1)) := (blk_cell BK159.out 1).trans rfl; have hcz8_2 : w7.cell? ⟨gb159, 2, none⟩ = some (.int .i64 ((rd_T32 l0 x4_1).f2)) := (blk_cell BK159.out 2).trans rfl; have hcz8_3 : w7.cell? ⟨gb159, 3, none⟩ = some (.slice A158_3 ((rd_T32 l0 x4_1).f3).length c158_3) := (blk_cell BK159.out 3).trans rfl; have hcz8_4 : w7.cell? ⟨gb159, 4, none⟩ = some (.string ((rd_T32 l0 x4_1).f4)) := (blk_cell BK159.out 4).trans rfl; have hcz8_5 : w7.cell? ⟨gb159, 5, none⟩ = some (.int .i64 ((rd_T32 l0 x4_1).f5)) := (blk_cell BK159.out 5).trans rfl; have hfz8_0 := blk_frozen BK159.out 0; have hfz8_1 := blk_frozen BK159.out 1; have hfz8_2 := blk_frozen BK159.out 2; have hfz8_3 := blk_frozen BK159.out 3; have hfz8_4 := blk_frozen BK159.out 4; have hfz8_5 := blk_frozen BK159.out 5) | ((with_reducible refine gate_builtin (b := .append) (xs := #[.tmp 16, .tmp 30]) rfl ?_); at_builtin; refine Kd.N_append k50 (w0 := w) w.heap.size rfl (.tmp 16) (.tmp 30) 27 50 (.agg #[(.int .i64 0), (.int .i64 0), (.int .i64 0), (.slice none 0 0), (.string ⟨#[]⟩), (.int .i64 0)]) 72 rfl Try.underlying27 info50 rfl (by decide) (by omega) u3 x3_1 (⟨(rd_T32 l0 x4_1).f0, (rd_T32 l0 x4_1).f1, (rd_T32 l0 x4_1).f2, (rd_T32 l0 x4_1).f3, (rd_T32 l0 x4_1).f4, (rd_T32 l0 x4_1).f5⟩ : S50) [.int .i64 ((rd_T32 l0 x4_1).f0), .int .i64 ((rd_T32 l0 x4_1).f1), .int .i64 ((rd_T32 l0 x4_1).f2), .slice A158_3 ((rd_T32 l0 x4_1).f3).length c158_3, .string ((rd_T32 l0 x4_1).f4), .int .i64 ((rd_T32 l0 x4_1).f5)] (fun k_ => (P0_ k_ ∨ w.heap.size ≤ k_) ∧ k_ ≠ gb159) (fun k_ => ((fun k_ => (P0_ k_ ∨ w.heap.size ≤ k_) ∧ k_ ≠ gb159)) k_ ∧ some k_ ≠ (u3 : Value).ownBlock) rfl rfl ?aP (fun _ hk => hk) ?aF ?aO ?aB ?aS ?aL ?_; (case aP => exact (k50_mkF _ _ (⟨(rd_T32 l0 x4_1).f0, (rd_T32 l0 x4_1).f1, (rd_T32 l0 x4_1).f2, (rd_T32 l0 x4_1).f3, (rd_T32 l0 x4_1).f4, (rd_T32 l0 x4_1).f5⟩ : S50) (Kd.V_reads' (Kd.V_mono (ok' := (fun k_ => ((fun k_ => (P0_ k_ ∨ w.heap.size ≤ k_) ∧ k_ ≠ gb159)) k_ ∧ some k_ ≠ (u3 : Value).ownBlock)) (HL158_3.out) (fun k_ hk => ⟨⟨hk.1, hk.2.2⟩, hk.2.1⟩))).2.1 (Kd.V_F (Kd.V_mono (ok' := (fun k_ => ((fun k_ => (P0_ k_ ∨ w.heap.size ≤ k_) ∧ k_ ≠ gb159)) k_ ∧ some k_ ≠ (u3 : Value).ownBlock)) (HL158_3.out) (fun k_ hk => ⟨⟨hk.1, hk.2.2⟩, hk.2.1⟩))))); (case aB => exact (by repeat (first | (with_reducible first | exact HB.out | apply below_alloc | apply pw_below_drewN | apply below_drew1 | refine below_set ?_ GE159.out) | exact HB.out))); (case aF => exact (fun k_ hk => ⟨(.inr (Nat.le_trans (below_size (by repeat (first | (with_reducible first | exact HB.out | apply below_alloc | apply pw_below_drewN | apply below_drew1 | refine below_set ?_ GE159.out) | exact HB.out))) hk)), Kd.freshB (g := gb159) (o := .cells #[.int .i64 ((rd_T32 l0 x4_1).f0), .int .i64 ((rd_T32 l0 x4_1).f1), .int .i64 ((rd_T32 l0 x4_1).f2), .slice A158_3 ((rd_T32 l0 x4_1).f3).length c158_3, .string ((rd_T32 l0 x4_1).f4), .int .i64 ((rd_T32 l0 x4_1).f5)] 32 (0, 0)) (by (with_reducible repeat (first | refine blk_drewN ?_ _ | refine blk_drew ?_ | refine blk_alloc ?_ _)); exact BK159.out) k_ hk⟩)); (case aO => exact (by (with_reducible repeat (first | apply Kd.N_alloc | apply Kd.N_drewN | apply Kd.N_drew)); exact HO_3.out)); (case aS => exact (below_size (by repeat (first | (with_reducible first | exact HB.out | apply below_alloc | apply pw_below_drewN | apply below_drew1 | refine below_set ?_ GE159.out) | exact HB.out)))); (case aL => have := LMc4.out; omega); intro v161 w9 ho hb hg hat; rw [← Ny160.out] at ho; have n0_ := Aside0.mk (Kd.V_afterv (ok := (fun k_ => (P0_ k_ ∨ w.heap.size ≤ k_) ∧ k_ ≠ gb159)) (by (with_reducible repeat (first | apply Kd.V_alloc | apply Kd.V_drewN | apply Kd.V_drew)); exact Kd.V_mono HO_0.out (fun _ hk => ⟨⟨hk.1, hk.2.2⟩, hk.2.1⟩)) hg hat); have n1_ := Aside0.mk (Kd.V_afterv (ok := (fun k_ => (P0_ k_ ∨ w.heap.size ≤ k_) ∧ k_ ≠ gb159)) (by (with_reducible repeat (first | apply Kd.V_alloc | apply Kd.V_drewN | apply Kd.V_drew)); exact Kd.V_mono HL158_3.out (fun _ hk => ⟨⟨hk.1, hk.2.2⟩, hk.2.1⟩)) hg hat); have n2_ := Aside0.mk (blk_grown (g := gb159) (o := .cells #[.int .i64 ((rd_T32 l0 x4_1).f0), .int .i64 ((rd_T32 l0 x4_1).f1), .int .i64 ((rd_T32 l0 x4_1).f2), .slice A158_3 ((rd_T32 l0 x4_1).f3).length c158_3, .string ((rd_T32 l0 x4_1).f4), .int .i64 ((rd_T32 l0 x4_1).f5)] 32 (0, 0)) (by (with_reducible repeat (first | refine blk_drewN ?_ _ | refine blk_drew ?_ | refine blk_alloc ?_ _)); exact BK159.out) hg (Kd.N_ne HO_3.out BK159.out (by decide))); have n3_ := Aside0.mk (hb); have n4_ := Aside0.mk (ho); clear HO_0; clear HL158_3; clear BK159; clear HB; clear HO_3; have HO_0 := n0_; have HL158_3 := n1_; have BK159 := n2_; have HB := n3_; have HO162 := n4_; clear n0_ n1_ n2_ n3_ n4_; clear ho hb hg hat))
            go_roundg k1
            case measure => have := HK1.out; omega
            case rel => exact ⟨(y160), (wrap64 (x4_1 + 1)), (by first | rfl | (simp; done) | (simp [*]; done)), H', ⟨by have := HK1.out; omega⟩, ⟨by (with_reducible repeat (first | apply Kd.V_alloc | apply Kd.V_drewN | apply Kd.V_drew)); exact Kd.V_mono HO_0.out (fun _ hk => ⟨hk.1.1, hk.2⟩)⟩, ⟨by (with_reducible repeat (first | apply Kd.N_alloc | apply Kd.N_drewN | apply Kd.N_drew)); exact Kd.N_mono HO162.out (fun _ hk => hk.1)⟩, ⟨by repeat (first | (with_reducible first | exact HB.out | apply below_alloc | apply pw_below_drewN | apply below_drew1 | refine below_set ?_ GE159.out) | exact HB.out)⟩⟩
          · rw [if_neg c4] at H
            exact absurd H (by simp)
        · rw [if_neg c3] at H
          exact absurd H (by simp)
      · rw [if_neg c2] at H
        have c2b0 : decide (x4_1 < (l0.length : Int)) = false := decide_eq_false c2
        clear c2
        obtain rfl := Option.some.inj H
        go_wp2
        go_ret
        exact ⟨_, by first | rfl | (simp [errW_none, errW_some] <;> rfl) | (simp [*, errW_none, errW_some] <;> rfl), by (with_reducible repeat (first | apply Kd.N_alloc | apply Kd.N_drewN | apply Kd.N_drew)); exact HO_3.out, by repeat (first | (with_reducible first | exact HB.out | apply below_alloc | apply pw_below_drewN | apply below_drew1) | exact HB.out)⟩

/-! ### dolmenref5_Ints: function 30 -/
def dolmenref5_Ints.l0 : Nat → List Int → List Int → Int → Option (Bool)
  | 0, _, _, _ => none
  | k + 1, x0, x1, x5 => if x5 < (x0.length : Int) then (if 0 ≤ x5 then (if x5 < (x1.length : Int) then (if (rd x0 x5) = (rd x1 x5) then (dolmenref5_Ints.l0 k x0 x1 (wrap64 (x5 + 1))) else (some false)) else (none)) else (none)) else (some true)
def dolmenref5_Ints.f (k : Nat) (l0 : List Int) (l1 : List Int) : Option (Bool) := if (l0.length : Int) = (l1.length : Int) then (dolmenref5_Ints.l0 k l0 l1 0) else (some false)
theorem dolmenref5_Ints.mono_l : ∀ k, (∀ y0 y1 y2, LeO (dolmenref5_Ints.l0 k y0 y1 y2) (dolmenref5_Ints.l0 (k + 1) y0 y1 y2))
  | 0 => fun _ _ _ r h => by simp [dolmenref5_Ints.l0] at h
  | k + 1 => by
    have ih0 := dolmenref5_Ints.mono_l k
    · intro y0 y1 y2
      unfold dolmenref5_Ints.l0
      repeat' first
      | (with_reducible exact ih0 _ _ _)
      | (with_reducible exact LeO.refl _)
      | (with_reducible exact LeO.none _)
      | (with_reducible refine LeO.ite ?_ ?_)
      | (with_reducible refine LeO.bind ?_ (fun _ => ?_))
      | exact ih0 _ _ _
      | exact LeO.none _
      | refine LeO.ite ?_ ?_
      | refine LeO.bind ?_ (fun _ => ?_)
theorem dolmenref5_Ints.mono : ∀ a0 a1 k, LeO (dolmenref5_Ints.f k a0 a1) (dolmenref5_Ints.f (k + 1) a0 a1) := by
  intro a0 a1 k
  have ih0 := dolmenref5_Ints.mono_l k
  unfold dolmenref5_Ints.f
  repeat' first
      | (with_reducible exact ih0 _ _ _)
      | (with_reducible exact LeO.refl _)
      | (with_reducible exact LeO.none _)
      | (with_reducible refine LeO.ite ?_ ?_)
      | (with_reducible refine LeO.bind ?_ (fun _ => ?_))
      | exact ih0 _ _ _
      | exact LeO.none _
      | refine LeO.ite ?_ ?_
      | refine LeO.bind ?_ (fun _ => ?_)
set_option maxHeartbeats 8000000 in
set_option maxRecDepth 100000 in
theorem dolmenref5_Ints.calls (k : Nat) (A0 : Option Addr) (c0 : Nat) (l0 : List Int) (A1 : Option Addr) (c1 : Nat) (l1 : List Int) (r : Bool) (w : World) (hr0 : Kd.C (Kd.int .i64) w A0 l0.length l0) (hc0 : l0.length ≤ c0) (hr1 : Kd.C (Kd.int .i64) w A1 l1.length l1) (hc1 : l1.length ≤ c1) (h : dolmenref5_Ints.f k l0 l1 = some r) :
    Calls Try.prog 30 #[.slice A0 l0.length c0, .slice A1 l1.length c1] w fun e w' => e = .returned (.bool r) ∧ Drawn0 w w' := by
  have HR0 := Aside0.mk hr0
  have HC0 := Aside0.mk hc0
  clear hr0 hc0
  have HR1 := Aside0.mk hr1
  have HC1 := Aside0.mk hc1
  clear hr1 hc1
  have H : (if (l0.length : Int) = (l1.length : Int) then (dolmenref5_Ints.l0 k l0 l1 0) else (some false)) = some r := h
  clear h
  by_cases c3 : (l0.length : Int) = (l1.length : Int)
  · rw [if_pos c3] at H
    have c3b0 : ((l0.length : Int) == (l1.length : Int)) = true := beq_iff_eq.mpr c3
    have c3b1 : ((l0.length : Int) != (l1.length : Int)) = false := bne_eq_false_iff_eq.mpr c3
    have c3b2 : (l0.length == l1.length) = true := by first | simpa using c3 | (simp at c3 ⊢; omega)
    clear c3
    have H' := Aside0.mk H
    clear H
    go_enter Try.func30, Try.ntmps30
    go_wp2
    repeat (go_quiet (fail); try go_wp2)
    go_loopg [5] k (fun kq v5 w' => ∃ (x5_1 : Int), v5 = .int .i64 x5_1 ∧ Aside0 (dolmenref5_Ints.l0 kq l0 l1 x5_1 = some r) ∧ Aside0 (kq ≤ k) ∧ Drawn0 w w')
    case atStart => exact ⟨(0), (by first | rfl | (simp; done) | (simp [*]; done)), H', ⟨Nat.le_refl _⟩, by repeat (first | exact Drawn0.refl _ | apply Drawn0.step)⟩
    case round =>
      clear H'
      try clear c1
      try clear p2
      try clear c3
      try clear c3b0
      try clear c3b1
      try clear c3b2
      obtain ⟨x5_1, rfl, HA, HK1, ⟨m1, rfl⟩⟩ := hrel
      cases gk with
      | zero => exact absurd HA.out (by simp [dolmenref5_Ints.l0])
      | succ k1 =>
        have H := HA.out
        clear HA
        simp only [dolmenref5_Ints.l0] at H
        by_cases c4 : x5_1 < (l0.length : Int)
        · rw [if_pos c4] at H
          have c4b0 : decide (x5_1 < (l0.length : Int)) = true := decide_eq_true c4
          clear c4
          by_cases c5 : 0 ≤ x5_1
          · rw [if_pos c5] at H
            have c5b0 : decide (0 ≤ x5_1) = true := decide_eq_true c5
            clear c5
            by_cases c6 : x5_1 < (l1.length : Int)
            · rw [if_pos c6] at H
              have c6b0 : decide (x5_1 < (l1.length : Int)) = true := decide_eq_true c6
              clear c6
              by_cases c7 : (rd l0 x5_1) = (rd l1 x5_1)
              · rw [if_pos c7] at H
                have c7b0 : ((rd l0 x5_1) == (rd l1 x5_1)) = true := beq_iff_eq.mpr c7
                have c7b1 : ((rd l0 x5_1) != (rd l1 x5_1)) = false := bne_eq_false_iff_eq.mpr c7
                clear c7
                have H' := Aside0.mk H
                clear H
                have p163 : 0 ≤ (x5_1 : Int) := of_decide_eq_true (by first | (with_reducible assumption) | assumption)
                have q163 : x5_1 < (l0.length : Int) := of_decide_eq_true (by first | (with_reducible assumption) | assumption)
                obtain ⟨ad163, e163, hx163_0⟩ := Kd.at_int HR0.out x5_1 p163 q163
                cases e163
                replace p163 := eq_true p163
                replace q163 := eq_true q163
                have p164 : 0 ≤ (x5_1 : Int) := of_decide_eq_true (by first | (with_reducible assumption) | assumption)
                have q164 : x5_1 < (l1.length : Int) := of_decide_eq_true (by first | (with_reducible assumption) | assumption)
                obtain ⟨ad164, e164, hx164_0⟩ := Kd.at_int HR1.out x5_1 p164 q164
                cases e164
                replace p164 := eq_true p164
                replace q164 := eq_true q164
                go_wp2
                repeat (go_quiet (fail); try go_wp2)
                go_roundg k1
                case measure => have := HK1.out; omega
                case rel => exact ⟨(wrap64 (x5_1 + 1)), (by first | rfl | (simp; done) | (simp [*]; done)), H', ⟨by have := HK1.out; omega⟩, by repeat (first | exact Drawn0.refl _ | apply Drawn0.step)⟩
              · rw [if_neg c7] at H
                have c7b0 : ((rd l0 x5_1) == (rd l1 x5_1)) = false := beq_eq_false_iff_ne.mpr c7
                have c7b1 : ((rd l0 x5_1) != (rd l1 x5_1)) = true := bne_iff_ne.mpr c7
                obtain rfl := Option.some.inj H
                have p163 : 0 ≤ (x5_1 : Int) := of_decide_eq_true (by first | (with_reducible assumption) | assumption)
                have q163 : x5_1 < (l0.length : Int) := of_decide_eq_true (by first | (with_reducible assumption) | assumption)
                obtain ⟨ad163, e163, hx163_0⟩ := Kd.at_int HR0.out x5_1 p163 q163
                cases e163
                replace p163 := eq_true p163
                replace q163 := eq_true q163
                have p164 : 0 ≤ (x5_1 : Int) := of_decide_eq_true (by first | (with_reducible assumption) | assumption)
                have q164 : x5_1 < (l1.length : Int) := of_decide_eq_true (by first | (with_reducible assumption) | assumption)
                obtain ⟨ad164, e164, hx164_0⟩ := Kd.at_int HR1.out x5_1 p164 q164
                cases e164
                replace p164 := eq_true p164
                replace q164 := eq_true q164
                go_wp2
                repeat (go_quiet (fail); try go_wp2)
                go_ret
                exact ⟨by first | rfl | (simp; done) | (simp [*]; done), by repeat (first | exact Drawn0.refl _ | apply Drawn0.step)⟩
            · rw [if_neg c6] at H
              exact absurd H (by simp)
          · rw [if_neg c5] at H
            exact absurd H (by simp)
        · rw [if_neg c4] at H
          have c4b0 : decide (x5_1 < (l0.length : Int)) = false := decide_eq_false c4
          clear c4
          obtain rfl := Option.some.inj H
          go_wp2
          repeat (go_quiet (fail); try go_wp2)
          go_ret
          exact ⟨by first | rfl | (simp; done) | (simp [*]; done), by repeat (first | exact Drawn0.refl _ | apply Drawn0.step)⟩
  · rw [if_neg c3] at H
    have c3b0 : ((l0.length : Int) == (l1.length : Int)) = false := beq_eq_false_iff_ne.mpr c3
    have c3b1 : ((l0.length : Int) != (l1.length : Int)) = true := bne_iff_ne.mpr c3
    have c3b2 : (l0.length == l1.length) = false := by first | simpa using c3 | (simp at c3 ⊢; omega)
    obtain rfl := Option.some.inj H
    go_enter Try.func30, Try.ntmps30
    go_wp2
    repeat (go_quiet (fail); try go_wp2)
    go_ret
    exact ⟨by first | rfl | (simp; done) | (simp [*]; done), by repeat (first | exact Drawn0.refl _ | apply Drawn0.step)⟩

/-! ### clean_own: function 50, given -/
def clean_own.f (a0_0 : Int) (a0_1 : Int) (a0_2 : Int) (l0_3 : List Int) (a0_4 : ByteArray) (a0_5 : Int) : Option (Int × Int × Int × List Int × ByteArray × Int) := if a0_0 = 1 then (some (a0_0, a0_1, a0_2, l0_3, (⟨#[]⟩ : ByteArray), 0)) else (if a0_0 = 2 then (some (a0_0, a0_1, a0_2, ([] : List Int), (⟨#[]⟩ : ByteArray), 0)) else (if a0_0 = 3 then (some (a0_0, a0_1, 0, ([] : List Int), a0_4, a0_5)) else (if a0_0 = 4 then (some (a0_0, a0_1, 0, ([] : List Int), a0_4, 0)) else (if a0_0 = 5 then (some (a0_0, a0_1, 0, ([] : List Int), (⟨#[]⟩ : ByteArray), a0_5)) else (some (a0_0, a0_1, 0, ([] : List Int), (⟨#[]⟩ : ByteArray), 0))))))
theorem clean_own.calls (a0_0 : Int) (a0_1 : Int) (a0_2 : Int) (P0_3_ : Nat → Prop) (u9000_ : Value) (l0_3 : List Int) (a0_4 : ByteArray) (a0_5 : Int) (r1 : Int) (r2 : Int) (r3 : Int) (r4 : List Int) (r5 : ByteArray) (r6 : Int) (w0 w : World) (hB : Below w0.heap.size w0 w) (ho0_3 : Kd.R (Kd.int .u8) 5 w w0.heap.size P0_3_ u9000_ l0_3) (h : clean_own.f a0_0 a0_1 a0_2 l0_3 a0_4 a0_5 = some (r1, r2, r3, r4, r5, r6)) :
    Calls Try.prog 50 #[.agg #[.int .i64 a0_0, .int .i64 a0_1, .int .i64 a0_2, u9000_, .string a0_4, .int .i64 a0_5]] w fun e w' => ∃ v3_ : Value, e = .returned (.agg #[.int .i64 r1, .int .i64 r2, .int .i64 r3, v3_, .string r5, .int .i64 r6]) ∧ Kd.R (Kd.int .u8) 5 w' w0.heap.size (fun k_ => (P0_3_ k_ ∨ w.heap.size ≤ k_)) v3_ r4 ∧ Below w0.heap.size w0 w' ∧ Kept w w' (fun k_ => P0_3_ k_) := by
  obtain ⟨A, c, rfl⟩ := Kd.R_slice ho0_3
  refine (Go.Proofs.Ytacdocchcfbgcaa.HOwn.own_any a0_0 a0_1 a0_2 A l0_3.length c a0_4 a0_5 w).mono ?_
  rintro e w' ⟨rfl, hb⟩
  have hB' : Below w0.heap.size w0 w' := below_then hB hB.size hb
  have hK : Kept w w' (fun k_ => P0_3_ k_) := Kept.of_below hb _
  unfold clean_own.f at h
  unfold Go.Proofs.Ytacdocchcfbgcaa.HOwn.ownV
  by_cases h1 : a0_0 = 1
  · rw [if_pos h1] at h ⊢
    simp only [Option.some.injEq, Prod.mk.injEq] at h
    obtain ⟨rfl, rfl, rfl, rfl, rfl, rfl⟩ := h
    exact ⟨_, rfl, Kd.R_mono (Kd.R_below ho0_3 hb) (fun _ hk => .inl hk), hB', hK⟩
  · rw [if_neg h1] at h ⊢
    by_cases h2 : a0_0 = 2
    · rw [if_pos h2] at h ⊢
      simp only [Option.some.injEq, Prod.mk.injEq] at h
      obtain ⟨rfl, rfl, rfl, rfl, rfl, rfl⟩ := h
      exact ⟨_, rfl, Kd.R_nil _ _ _ _ _, hB', hK⟩
    · rw [if_neg h2] at h ⊢
      by_cases h3 : a0_0 = 3
      · rw [if_pos h3] at h ⊢
        simp only [Option.some.injEq, Prod.mk.injEq] at h
        obtain ⟨rfl, rfl, rfl, rfl, rfl, rfl⟩ := h
        exact ⟨_, rfl, Kd.R_nil _ _ _ _ _, hB', hK⟩
      · rw [if_neg h3] at h ⊢
        by_cases h4 : a0_0 = 4
        · rw [if_pos h4] at h ⊢
          simp only [Option.some.injEq, Prod.mk.injEq] at h
          obtain ⟨rfl, rfl, rfl, rfl, rfl, rfl⟩ := h
          exact ⟨_, rfl, Kd.R_nil _ _ _ _ _, hB', hK⟩
        · rw [if_neg h4] at h ⊢
          by_cases h5 : a0_0 = 5
          · rw [if_pos h5] at h ⊢
            simp only [Option.some.injEq, Prod.mk.injEq] at h
            obtain ⟨rfl, rfl, rfl, rfl, rfl, rfl⟩ := h
            exact ⟨_, rfl, Kd.R_nil _ _ _ _ _, hB', hK⟩
          · rw [if_neg h5] at h ⊢
            simp only [Option.some.injEq, Prod.mk.injEq] at h
            obtain ⟨rfl, rfl, rfl, rfl, rfl, rfl⟩ := h
            exact ⟨_, rfl, Kd.R_nil _ _ _ _ _, hB', hK⟩

/-! ### clean_Thorough: function 31, given -/
def ownE (e : S50) : S50 :=
  if e.f0 = 1 then ⟨e.f0, e.f1, e.f2, e.f3, ⟨#[]⟩, 0⟩ else if e.f0 = 2 then ⟨e.f0, e.f1, e.f2, [], ⟨#[]⟩, 0⟩ else if e.f0 = 3 then ⟨e.f0, e.f1, 0, [], e.f4, e.f5⟩
  else if e.f0 = 4 then ⟨e.f0, e.f1, 0, [], e.f4, 0⟩ else if e.f0 = 5 then ⟨e.f0, e.f1, 0, [], ⟨#[]⟩, e.f5⟩ else ⟨e.f0, e.f1, 0, [], ⟨#[]⟩, 0⟩
def thor (l0 : List S50) : List Int → List S50 → Option (List S50)
  | [], acc => some acc
  | i :: r, acc => if 0 ≤ i ∧ i < (l0.length : Int) ∧ acc.length < 1954687338268 ∧ (rd_T50 l0 i).f3.length < 140737488355328 then thor l0 r (acc ++ [ownE (rd_T50 l0 i)]) else none
def clean_Thorough.f (k : Nat) (l0 : List S50) (l1 : List Int) : Option (List S50 × Option Int) :=
  (clean_Needed.f k l0 l1).bind fun bt => if bt.2.isNone = true then (thor l0 bt.1 []).map (fun r => (r, none)) else some ([], some (bt.2.getD 0))
theorem clean_Thorough.mono : ∀ a0 a1 k, LeO (clean_Thorough.f k a0 a1) (clean_Thorough.f (k + 1) a0 a1) := fun a0 a1 k => LeO.bind (clean_Needed.mono _ _ _) (fun _ => LeO.refl _)
theorem own_FK {W : World} {ok : Nat → Prop} {x : S50} {A : Option Addr} {c : Nat} (hl : x.f3.length ≤ c) (hF : Kd.F (Kd.int .u8) W ok A x.f3.length x.f3) :
    ∃ (o' : Int) (A' : Option Addr) (n' c' : Nat) (s' : ByteArray) (i' : Int), Go.Proofs.Ytacdocchcfbgcaa.HOwn.ownV x.f0 x.f1 x.f2 A x.f3.length c x.f4 x.f5 = #[.int .i64 x.f0, .int .i64 x.f1, .int .i64 o', .slice A' n' c', .string s', .int .i64 i'] ∧
      Kd.FK k50 W ok (ownE x) [.int .i64 x.f0, .int .i64 x.f1, .int .i64 o', .slice A' n' c', .string s', .int .i64 i'] := by
  unfold Go.Proofs.Ytacdocchcfbgcaa.HOwn.ownV ownE
  split
  · exact ⟨_, _, _, _, _, _, rfl, k50_mkF W ok ⟨x.f0, x.f1, x.f2, x.f3, ⟨#[]⟩, 0⟩ hl hF⟩
  · split
    · exact ⟨_, _, _, _, _, _, rfl, k50_mkF W ok ⟨x.f0, x.f1, x.f2, [], ⟨#[]⟩, 0⟩ (Nat.le_refl 0) (Kd.F_nil _ _ _)⟩
    · split
      · exact ⟨_, _, _, _, _, _, rfl, k50_mkF W ok ⟨x.f0, x.f1, 0, [], x.f4, x.f5⟩ (Nat.le_refl 0) (Kd.F_nil _ _ _)⟩
      · split
        · exact ⟨_, _, _, _, _, _, rfl, k50_mkF W ok ⟨x.f0, x.f1, 0, [], x.f4, 0⟩ (Nat.le_refl 0) (Kd.F_nil _ _ _)⟩
        · split
          · exact ⟨_, _, _, _, _, _, rfl, k50_mkF W ok ⟨x.f0, x.f1, 0, [], ⟨#[]⟩, x.f5⟩ (Nat.le_refl 0) (Kd.F_nil _ _ _)⟩
          · exact ⟨_, _, _, _, _, _, rfl, k50_mkF W ok ⟨x.f0, x.f1, 0, [], ⟨#[]⟩, 0⟩ (Nat.le_refl 0) (Kd.F_nil _ _ _)⟩
set_option maxHeartbeats 2000000 in
set_option maxRecDepth 100000 in
theorem clean_Thorough.calls (k : Nat) (A0 : Option Addr) (c0 : Nat) (l0 : List S50) (A1 : Option Addr) (c1 : Nat) (l1 : List Int) (r1 : List S50) (r2 : Option Int) (w : World) (hr0 : Kd.C k50 w A0 l0.length l0) (hc0 : l0.length ≤ c0) (hr1 : Kd.C (Kd.int .i64) w A1 l1.length l1) (hc1 : l1.length ≤ c1) (h : clean_Thorough.f k l0 l1 = some (r1, r2)) :
    Calls Try.prog 31 #[.slice A0 l0.length c0, .slice A1 l1.length c1] w fun e w' => ∃ v0_ : Value, e = .returned (.tuple #[v0_, errW r2]) ∧ Kd.V k50 50 w' w.heap.size (fun k_ => w.heap.size ≤ k_) v0_ r1 ∧ Below w.heap.size w w' := by
  have hu50 := Try.underlying50
  have hu44 := Try.underlying44
  have HR0 := Aside0.mk hr0
  have HC0 := Aside0.mk hc0
  have HR1 := Aside0.mk hr1
  have HC1 := Aside0.mk hc1
  clear hr0 hc0 hr1 hc1
  obtain ⟨⟨need, oe⟩, hn, h⟩ := Option.bind_eq_some_iff.mp h
  have HN := Aside0.mk hn
  clear hn
  cases oe with
  | some q =>
    replace h : some (([] : List S50), some q) = some (r1, r2) := h
    simp only [Option.some.injEq, Prod.mk.injEq] at h
    obtain ⟨rfl, rfl⟩ := h
    go_enter Try.func31, Try.ntmps31
    go_wp2_with (go_at_call 28; refine (clean_Needed.calls k _ _ l0 _ _ l1 need (some q) _ HR0.out HC0.out HR1.out HC1.out HN.out).mono ?_; rintro e w4 ⟨v218, rfl, ho0, hb⟩; have HB := Aside0.mk hb; clear hb ho0; simp only [errW_none, errW_some])
    go_ret2
    exact ⟨_, by simp [errW_none, errW_some], Kd.V_nil _ _ _ _ _, HB.out⟩
  | none =>
    replace h : (thor l0 need []).map (fun r => (r, (none : Option Int))) = some (r1, r2) := h
    obtain ⟨r1', ht, he⟩ := Option.map_eq_some_iff.mp h
    simp only [Prod.mk.injEq] at he
    obtain ⟨rfl, rfl⟩ := he
    have HT := Aside0.mk ht
    clear h ht
    go_enter Try.func31, Try.ntmps31
    go_wp2_with (go_at_call 28; refine (clean_Needed.calls k _ _ l0 _ _ l1 need none _ HR0.out HC0.out HR1.out HC1.out HN.out).mono ?_; rintro e w4 ⟨v218, rfl, ho0, hb⟩; have HB := Aside0.mk hb; obtain ⟨An, cn, rfl⟩ := Kd.R_slice ho0; have HNd := Aside0.mk (Kd.R_reads' ho0).2.2; have HBase := Aside0.mk (Below.refl w4.heap.size w4); clear hb ho0; simp only [errW_none, errW_some])
    go_loopw [4, 21] (fun v4 v21 w' => ∃ (j : Nat) (acc : List S50), v21 = .int .i64 j ∧ j ≤ need.length ∧ Aside0 (thor l0 (need.drop j) acc = some r1') ∧ Aside0 (Kd.N k50 50 w' w4.heap.size (fun k_ => w4.heap.size ≤ k_) v4 acc) ∧ Aside0 (Below w4.heap.size w4 w')) (fun _ v21 _ => need.length - (intOf v21).toNat)
    case atStart => exact ⟨0, [], rfl, Nat.zero_le _, HT, ⟨Kd.N_nil _ _ _ _ _⟩, HBase⟩
    case round =>
      clear HT HBase
      obtain ⟨j, acc, rfl, hj, HT, HO, HB4⟩ := hrel
      have hm4 : need.length ≤ 9223372036854775807 := HNd.out.2.1
      by_cases hlt : j < need.length
      · have hlt' : (j : Int) < (need.length : Int) := by omega
        have ht := HT.out
        clear HT
        rw [List.drop_eq_getElem_cons hlt] at ht
        unfold thor at ht
        split at ht
        · rename_i hc
          obtain ⟨h1, h2, h3, h4⟩ := hc
          have HT := Aside0.mk ht
          clear ht
          obtain ⟨ad, e, hx⟩ := Kd.at_int (Kd.C_below HNd.out HB4.out) (j : Int) (by omega) hlt'
          cases e
          rw [show rd need (j : Int) = need[j] from by unfold rd; simp [hlt]] at hx
          rw [Int.toNat_natCast] at hx
          obtain ⟨ae, A3, c3, rfl, e0, e1, e2, e3, e4, e5, e6, e7⟩ := at_T50 (Kd.C_below (Kd.C_below HR0.out HB.out) HB4.out) need[j] h1 h2
          have hm0 : l0.length ≤ 9223372036854775807 := HR0.out.2.1
          generalize rd_T50 l0 need[j] = x at *
          generalize need[j] = i at *
          obtain ⟨x0, x1, x2, x3, x4, x5⟩ := x
          dsimp only at *
          have E6 := Aside0.mk e6
          have E7 := Aside0.mk e7
          have H3 := Aside0.mk h3
          have H4 := Aside0.mk h4
          clear e6 e7 h3 h4 HR0 HC0 HR1 HC1 HN
          have b1 : decide (0 ≤ i) = true := decide_eq_true h1
          have b2 : decide (i < (l0.length : Int)) = true := decide_eq_true h2
          have HJ := Aside0.mk hj
          have HS := Aside0.mk (below_size HB4.out)
          have HL := Aside0.mk (Kd.N_lt HO.out)
          clear hj hlt
          go_wp2_with (first | ((with_reducible refine gate_builtin (b := .append) (xs := #[.const (.slice none 0 0), .tmp 30]) rfl ?_); at_builtin; (refine Kd.R_append_rows (Kd.int .u8) (w0 := w4) w4.heap.size rfl (.const (.slice none 0 0)) (.tmp 30) 30 5 (.int .u8 0) 1 rfl Try.underlying30 (by rfl) rfl (by decide) (by omega) (.slice none 0 0) ([] : List Int) x3 _ _ _ (fun k_ => wr.heap.size < k_) (fun _ => False) rfl rfl ?aO ?aR (fun _ _ h => h) (fun _ h => h.elim) ?aF ?aB ?aS ?aL ?_; (case aR => exact Kd.C_alloc E7.out _); (case aB => exact below_alloc HB4.out _); (case aF => exact (fun k hk => by have := hk; simp at this; omega)); (case aO => exact Kd.R_nil _ _ _ _ _); (case aS => exact below_size (below_alloc HB4.out _)); (case aL => have := H4.out; simp only [List.length_nil]; omega); intro v225 w16 ho hb hg hat; rw [List.nil_append] at ho; have BK : w16.heap[wr.heap.size]? = some (.cells #[.int .i64 x0, .int .i64 x1, .int .i64 x2, .slice A3 x3.length c3, .string x4, .int .i64 x5] 50 (0, 0)) := (hg.block _ (by simp) (by simp [Value.ownBlock])).trans (heap_alloc_new wr _); have HO2 := Aside0.mk (Kd.N_grown (Kd.N_alloc (Kd.N_elderB HO.out wr.heap.size (Nat.le_refl _)) _) hg (fun _ _ => by simp [Value.ownBlock])); obtain ⟨Ad, cd, rfl⟩ := Kd.R_slice ho; have HD := Aside0.mk (Kd.N_F (Kd.R_N ho)); have HDl := Aside0.mk (Kd.R_reads' ho).2.1; have HB5 := Aside0.mk hb; have hcz_0 := blk_cell BK 0; have hcz_1 := blk_cell BK 1; have hcz_2 := blk_cell BK 2; have hcz_3 := blk_cell BK 3; have hcz_4 := blk_cell BK 4; have hcz_5 := blk_cell BK 5; have hfz_3 := blk_frozen BK 3; have hgs : Aside0 (wr.heap.size < w16.heap.size) := ⟨by have := Nat.lt_of_lt_of_le (Nat.lt_succ_self wr.heap.size) (by simpa using hg.size : wr.heap.size + 1 ≤ w16.heap.size); exact this⟩; clear ho hb hg hat BK HO HB4)) | (go_at_call 50; (refine (Go.Proofs.Ytacdocchcfbgcaa.HOwn.own_any x0 x1 x2 Ad x3.length cd x4 x5 _).mono ?_; rintro e w17 ⟨rfl, hb⟩; have HO3 := Aside0.mk (Kd.N_below (Kd.N_far (p := ⟨wr.heap.size, 3, none⟩) HO2.out (fun _ hk => hk.2) (.slice Ad x3.length cd)) hb); have HD2 := Aside0.mk (Kd.F_below (Kd.F_far (p := ⟨wr.heap.size, 3, none⟩) HD.out (fun k_ hk => by intro he; have h1_ : wr.heap.size < k_ := hk; have h2_ : k_ = wr.heap.size := he; omega) (.slice Ad x3.length cd)) hb); have HB6 := Aside0.mk (below_step (Below.setCell HB5.out HS.out _) hb); obtain ⟨o', A', n', c', s', i', hov, hfk⟩ := own_FK (x := ⟨x0, x1, x2, x3, x4, x5⟩) HDl.out HD2.out; dsimp only at hov; rw [hov]; have HFK := Aside0.mk hfk; clear HO2 HD HB5 hb hov hfk)) | ((with_reducible refine gate_builtin (b := .append) (xs := #[.tmp 33, .tmp 36]) rfl ?_); at_builtin; (refine Kd.N_append k50 (w0 := w4) w4.heap.size rfl (.tmp 33) (.tmp 36) 27 50 (.agg #[.int .i64 0, .int .i64 0, .int .i64 0, .slice none 0 0, .string ⟨#[]⟩, .int .i64 0]) 72 rfl Try.underlying27 (by rfl) rfl (by decide) (by omega) _ acc (ownE ⟨x0, x1, x2, x3, x4, x5⟩) _ (fun k_ => w4.heap.size ≤ k_) (fun k_ => wr.heap.size < k_) rfl rfl HFK.out ?aK ?aF ?aO ?aB ?aS ?aL ?_; (case aK => exact fun k hk => ⟨by have := HS.out; omega, fun he => by have := HL.out k he.symm; omega⟩); (case aF => exact fun k hk => Nat.le_trans (below_size HB6.out) hk); (case aO => exact Kd.N_mono HO3.out (fun _ hk => hk.1)); (case aB => exact HB6.out); (case aS => exact below_size HB6.out); (case aL => have := H3.out; omega); intro v1 w18 ho hb hg hat; have HO4 := Aside0.mk ho; have HB7 := Aside0.mk hb; clear ho hb hg hat HO3 HB6)))
          go_roundw
          case rel => exact ⟨j + 1, acc ++ [ownE ⟨x0, x1, x2, x3, x4, x5⟩], by go_num, by have := HJ.out; omega, HT, HO4, HB7⟩
          case measure => simp [intOf]; omega
        · cases ht
      · have HE : Aside0 (r1' = acc) := ⟨by
          have := HT.out
          rw [List.drop_eq_nil_of_le (by omega)] at this
          exact (Option.some.inj this).symm⟩
        go_wp2
        go_ret2
        exact ⟨_, by first | rfl | simp [errW_none], by rw [HE.out]; exact Kd.V_mono (Kd.N_V HO.out) (fun k hk => Nat.le_trans (below_size HB.out) hk), below_then HB.out HB.out.size HB4.out⟩

end Go.Proofs.Ytacdocchcfbgcaa.Q
