-- printed by wip/mp.py (the kit's print, with given functions); Lean checks it
import Derived.Test.YtacdocchcfbgcaaQx0
import Derived.Test.YtacdocchcfbgcaaQx3
import Derived.Test.YtacdocchcfbgcaaQx4
namespace Go.Proofs.Ytacdocchcfbgcaa.Q
open Go.RowKit Go.Proofs.YtacdocchcfbgcaaW.PrintWords Go.Proofs.YtacdocchcfbgcaaW.PrintLast Go.Proofs.YtacdocchcfbgcaaW.PrintMore
attribute [local go_sem] max2_int min2_int max_two min_two max_three min_three max_four min_four   -- for this text's walks alone
set_option linter.unusedVariables false
set_option linter.unusedSimpArgs false

/-! ### clean_Spans: function 32 -/
def clean_Spans.l0 : Nat → List (S50) → List (S64) → Int → Int → Option ((List (S64)) × Option Int)
  | 0, _, _, _, _ => none
  | k + 1, x0, x2, x16, x17 => if x17 < x16 then ((clean_span.f k x0 x17).bind fun bt122 => (if x2.length < 8796093022208 then (clean_Spans.l0 k x0 (x2 ++ [(⟨bt122.1, bt122.2⟩ : S64)]) x16 (wrap64 (x17 + 1))) else (none))) else (some (x2, none))
def clean_Spans.f (k : Nat) (l0 : List (S50)) : Option ((List (S64)) × Option Int) := (fold_Check.f k l0).bind fun bt119 => (if bt119.2.isNone = true then (clean_Spans.l0 k l0 ([] : List (S64)) (l0.length : Int) 0) else (some (([] : List (S64)), some (bt119.2.getD 0))))
theorem clean_Spans.mono_l : ∀ k, (∀ y0 y1 y2 y3, LeO (clean_Spans.l0 k y0 y1 y2 y3) (clean_Spans.l0 (k + 1) y0 y1 y2 y3))
  | 0 => fun _ _ _ _ r h => by simp [clean_Spans.l0] at h
  | k + 1 => by
    have ih0 := clean_Spans.mono_l k
    · intro y0 y1 y2 y3
      unfold clean_Spans.l0
      repeat' first
      | (with_reducible exact ih0 _ _ _ _)
      | (with_reducible exact clean_span.mono _ _ _)
      | (with_reducible exact fold_Check.mono _ _)
      | (with_reducible exact LeO.refl _)
      | (with_reducible exact LeO.none _)
      | (with_reducible refine LeO.ite ?_ ?_)
      | (with_reducible refine LeO.bind ?_ (fun _ => ?_))
      | exact ih0 _ _ _ _
      | exact clean_span.mono _ _ _
      | exact fold_Check.mono _ _
      | exact LeO.none _
      | refine LeO.ite ?_ ?_
      | refine LeO.bind ?_ (fun _ => ?_)
theorem clean_Spans.mono : ∀ a0 k, LeO (clean_Spans.f k a0) (clean_Spans.f (k + 1) a0) := by
  intro a0 k
  have ih0 := clean_Spans.mono_l k
  unfold clean_Spans.f
  repeat' first
      | (with_reducible exact ih0 _ _ _ _)
      | (with_reducible exact clean_span.mono _ _ _)
      | (with_reducible exact fold_Check.mono _ _)
      | (with_reducible exact LeO.refl _)
      | (with_reducible exact LeO.none _)
      | (with_reducible refine LeO.ite ?_ ?_)
      | (with_reducible refine LeO.bind ?_ (fun _ => ?_))
      | exact ih0 _ _ _ _
      | exact clean_span.mono _ _ _
      | exact fold_Check.mono _ _
      | exact LeO.none _
      | refine LeO.ite ?_ ?_
      | refine LeO.bind ?_ (fun _ => ?_)
set_option maxHeartbeats 8000000 in
set_option maxRecDepth 100000 in
theorem clean_Spans.calls (k : Nat) (A0 : Option Addr) (c0 : Nat) (l0 : List (S50)) (r1 : List (S64)) (r2 : Option Int) (w : World) (hr0 : Kd.C k50 w A0 l0.length l0) (hc0 : l0.length ≤ c0) (h : clean_Spans.f k l0 = some (r1, r2)) :
    Calls Try.prog 32 #[.slice A0 l0.length c0] w fun e w' => ∃ v0_ : Value, e = .returned (.tuple #[v0_, errW r2]) ∧ Kd.R k64 64 w' w.heap.size (fun _ => True) v0_ r1 ∧ Below w.heap.size w w' := by
  have hu44 := Try.underlying44
  have hu90 := Try.underlying90
  have HR0 := Aside0.mk hr0
  have HC0 := Aside0.mk hc0
  clear hr0 hc0
  have HB := Aside0.mk (Below.refl w.heap.size w)
  have H : ((fold_Check.f k l0).bind fun bt119 => (if bt119.2.isNone = true then (clean_Spans.l0 k l0 ([] : List (S64)) (l0.length : Int) 0) else (some (([] : List (S64)), some (bt119.2.getD 0))))) = some (r1, r2) := h
  clear h
  replace H := Option.bind_eq_some_iff.mp H
  obtain ⟨⟨t119, t120⟩, A20, H⟩ := H
  replace H : (if t120.isNone = true then (clean_Spans.l0 k l0 ([] : List (S64)) (l0.length : Int) 0) else (some (([] : List (S64)), some (t120.getD 0)))) = some (r1, r2) := H
  have A2 := Aside0.mk A20
  clear A20
  rcases t120 with _ | q121
  · have H1 : (clean_Spans.l0 k l0 ([] : List (S64)) (l0.length : Int) 0) = some (r1, r2) := by rw [if_pos (show (none : Option Int).isNone = true by rfl)] at H; exact H
    clear H
    have H := H1
    clear H1
    try simp only [errW_none, errW_some]
    have H' := Aside0.mk H
    clear H
    go_enter Try.func32, Try.ntmps32
    go_wp2_with (first | ((with_reducible refine gate_callee (f := 41) rfl ?_); refine goesL_ (some 9) rfl rfl Try.func41 (by kernel_rfl) rfl #[.slice A0 l0.length c0] rfl (by (try simp only [List.map_toArray, List.map_cons, List.map_nil]); first | done | rfl | (simp only [List.length_drop, List.length_take]; rfl)) ?_; (with_reducible refine (fold_Check.calls k _ _ l0 t119 none _ ?side1 ?side2 A2.out).mono ?_); (case side1 => repeat (first | exact HR0.out | (with_reducible refine Kd.C_alloc ?_ _) | (with_reducible refine Kd.C_drewN ?_ _) | (with_reducible refine Kd.C_drew ?_))); (case side2 => exact HC0.out); rintro e w3 ⟨rfl, hb⟩; refine ⟨_, rfl, ?_⟩; have n0_ := Aside0.mk (below_step (by repeat (first | (with_reducible first | exact HB.out | apply below_alloc | apply pw_below_drewN | apply below_drew1) | exact HB.out)) hb); clear HB; have HB := n0_; clear n0_; (try clear hb); (try clear hb2); (try clear hk); (try clear hi); (try simp only [errW_none, errW_some])))
    go_loopg [2, 17] k (fun kq v2 v17 w' => ∃ (x2_1 : List (S64)) (x17_1 : Int), v17 = .int .i64 x17_1 ∧ Aside0 (clean_Spans.l0 kq l0 x2_1 (l0.length : Int) x17_1 = some (r1, r2)) ∧ Aside0 (kq ≤ k) ∧ Aside0 (Kd.R k64 64 w' w.heap.size (fun _ => True) v2 x2_1) ∧ Aside0 (Below w.heap.size w w'))
    case atStart => exact ⟨(([] : List (S64))), (0), (by first | rfl | (simp; done) | (simp [*]; done)), H', ⟨Nat.le_refl _⟩, ⟨by first | exact Kd.R_nil _ _ _ _ _ | exact Kd.N_nil _ _ _ _ _ | exact Kd.V_nil _ _ _ _ _ | exact Kd.Q_nil _ _ _ _ _ | exact Kd.S_nil _ _ _ _ _⟩, ⟨by repeat (first | (with_reducible first | exact HB.out | apply below_alloc | apply pw_below_drewN | apply below_drew1) | exact HB.out)⟩⟩
    case round =>
      clear H'
      try clear q1
      try clear p2
      try clear c3
      try clear q121
      obtain ⟨x2_1, x17_1, rfl, HA, HK1, HO_2, HB⟩ := hrel
      cases gk with
      | zero => exact absurd HA.out (by simp [clean_Spans.l0])
      | succ k1 =>
        have H := HA.out
        clear HA
        simp only [clean_Spans.l0] at H
        by_cases c4 : x17_1 < (l0.length : Int)
        · rw [if_pos c4] at H
          have c4b0 : decide (x17_1 < (l0.length : Int)) = true := decide_eq_true c4
          clear c4
          replace H := Option.bind_eq_some_iff.mp H
          obtain ⟨⟨t122, t123⟩, A50, H⟩ := H
          replace H : (if x2_1.length < 8796093022208 then (clean_Spans.l0 k1 l0 (x2_1 ++ [(⟨t122, t123⟩ : S64)]) (l0.length : Int) (wrap64 (x17_1 + 1))) else (none)) = some (r1, r2) := H
          have A5 := Aside0.mk A50
          clear A50
          by_cases c6 : x2_1.length < 8796093022208
          · rw [if_pos c6] at H
            have LMc6 := Aside0.mk c6
            clear c6
            obtain ⟨y124, hy124⟩ : ∃ y_ : List (S64), y_ = (x2_1 ++ [(⟨t122, t123⟩ : S64)]) := ⟨_, rfl⟩
            replace H : (clean_Spans.l0 k1 l0 y124 (l0.length : Int) (wrap64 (x17_1 + 1))) = some (r1, r2) := by first | (rw [hy124]; with_reducible exact H) | (have H2_ := (Option.bind_some _ _).symm.trans H; rw [hy124]; with_reducible exact H2_) | (have H2_ := (Option.bind_some _ _).symm.trans H; with_reducible exact H2_) | with_reducible exact H | (rw [hy124]; exact H) | exact H
            have Ny124 := Aside0.mk hy124
            clear hy124
            have H' := Aside0.mk H
            clear H
            go_wp2_with (first | ((with_reducible refine gate_callee (f := 51) rfl ?_); refine goesL_ (some 23) rfl rfl Try.func51 (by kernel_rfl) rfl #[.slice A0 l0.length c0, .int .i64 x17_1] rfl (by (try simp only [List.map_toArray, List.map_cons, List.map_nil]); first | done | rfl | (simp only [List.length_drop, List.length_take]; rfl)) ?_; (with_reducible refine (clean_span.calls k1 _ _ l0 x17_1 t122 t123 _ ?side1 ?side2 A5.out).mono ?_); (case side1 => repeat (first | exact (Kd.C_below HR0.out HB.out) | (with_reducible refine Kd.C_alloc ?_ _) | (with_reducible refine Kd.C_drewN ?_ _) | (with_reducible refine Kd.C_drew ?_))); (case side2 => exact HC0.out); rintro e w7 ⟨rfl, hb⟩; refine ⟨_, rfl, ?_⟩; have n0_ := Aside0.mk (Kd.R_below (by (with_reducible repeat (first | apply Kd.R_alloc | apply Kd.R_drewN | apply Kd.R_drew)); exact HO_2.out) hb); have n1_ := Aside0.mk (below_step (by repeat (first | (with_reducible first | exact HB.out | apply below_alloc | apply pw_below_drewN | apply below_drew1) | exact HB.out)) hb); clear HO_2; clear HB; have HO_2 := n0_; have HB := n1_; clear n0_ n1_; (try clear hb); (try clear hb2); (try clear hk); (try clear hi)) | ((with_reducible refine gate_builtin (b := .append) (xs := #[.tmp 20, .tmp 24]) rfl ?_); at_builtin; refine Kd.R_append k64 (w0 := w) w.heap.size rfl (.tmp 20) (.tmp 24) 56 64 (.agg #[(.int .i64 0), (.int .i64 0)]) 16 rfl Try.underlying56 info64 rfl (by decide) (by omega) u2 x2_1 (⟨t122, t123⟩ : S64) [.int .i64 t122, .int .i64 t123] (fun _ => True) (fun _ => False) rfl rfl ?aP (fun _ hk => hk.elim) ?aF ?aO ?aB ?aS ?aL ?_; (case aP => exact k64_mkM _ _ _ (⟨t122, t123⟩ : S64)); (case aB => exact (by repeat (first | (with_reducible first | exact HB.out | apply below_alloc | apply pw_below_drewN | apply below_drew1) | exact HB.out))); (case aF => exact (fun _ _ => trivial)); (case aO => exact (by (with_reducible repeat (first | apply Kd.R_alloc | apply Kd.R_drewN | apply Kd.R_drew)); exact HO_2.out)); (case aS => exact (below_size (by repeat (first | (with_reducible first | exact HB.out | apply below_alloc | apply pw_below_drewN | apply below_drew1) | exact HB.out)))); (case aL => have := LMc6.out; omega); intro v125 w8 ho hb hg hat; rw [← Ny124.out] at ho; have n0_ := Aside0.mk (hb); have n1_ := Aside0.mk (ho); clear HB; clear HO_2; have HB := n0_; have HO126 := n1_; clear n0_ n1_; clear ho hb hg hat))
            go_roundg k1
            case measure => have := HK1.out; omega
            case rel => exact ⟨(y124), (wrap64 (x17_1 + 1)), (by first | rfl | (simp; done) | (simp [*]; done)), H', ⟨by have := HK1.out; omega⟩, ⟨by (with_reducible repeat (first | apply Kd.R_alloc | apply Kd.R_drewN | apply Kd.R_drew)); exact HO126.out⟩, ⟨by repeat (first | (with_reducible first | exact HB.out | apply below_alloc | apply pw_below_drewN | apply below_drew1) | exact HB.out)⟩⟩
          · rw [if_neg c6] at H
            exact absurd H (by simp)
        · rw [if_neg c4] at H
          have c4b0 : decide (x17_1 < (l0.length : Int)) = false := decide_eq_false c4
          clear c4
          simp only [Option.some.injEq, Prod.mk.injEq] at H
          obtain ⟨rfl, rfl⟩ := H
          go_wp2
          go_ret2
          exact ⟨_, by first | rfl | (simp [errW_none, errW_some] <;> rfl) | (simp [*, errW_none, errW_some] <;> rfl), by (with_reducible repeat (first | apply Kd.R_alloc | apply Kd.R_drewN | apply Kd.R_drew)); exact HO_2.out, by repeat (first | (with_reducible first | exact HB.out | apply below_alloc | apply pw_below_drewN | apply below_drew1) | exact HB.out)⟩
  · have H1 : (some (([] : List (S64)), some q121)) = some (r1, r2) := by rw [if_neg (show ¬ (some q121).isNone = true by simp)] at H; exact H
    clear H
    have H := H1
    clear H1
    try simp only [errW_none, errW_some]
    simp only [Option.some.injEq, Prod.mk.injEq] at H
    obtain ⟨rfl, rfl⟩ := H
    go_enter Try.func32, Try.ntmps32
    go_wp2_with (first | ((with_reducible refine gate_callee (f := 41) rfl ?_); refine goesL_ (some 9) rfl rfl Try.func41 (by kernel_rfl) rfl #[.slice A0 l0.length c0] rfl (by (try simp only [List.map_toArray, List.map_cons, List.map_nil]); first | done | rfl | (simp only [List.length_drop, List.length_take]; rfl)) ?_; (with_reducible refine (fold_Check.calls k _ _ l0 t119 (some q121) _ ?side1 ?side2 A2.out).mono ?_); (case side1 => repeat (first | exact HR0.out | (with_reducible refine Kd.C_alloc ?_ _) | (with_reducible refine Kd.C_drewN ?_ _) | (with_reducible refine Kd.C_drew ?_))); (case side2 => exact HC0.out); rintro e w9 ⟨rfl, hb⟩; refine ⟨_, rfl, ?_⟩; have n0_ := Aside0.mk (below_step (by repeat (first | (with_reducible first | exact HB.out | apply below_alloc | apply pw_below_drewN | apply below_drew1) | exact HB.out)) hb); clear HB; have HB := n0_; clear n0_; (try clear hb); (try clear hb2); (try clear hk); (try clear hi); (try simp only [errW_none, errW_some])))
    go_ret2
    exact ⟨_, by first | rfl | (simp [errW_none, errW_some] <;> rfl) | (simp [*, errW_none, errW_some] <;> rfl), by first | exact Kd.R_nil _ _ _ _ _ | exact Kd.N_nil _ _ _ _ _ | exact Kd.V_nil _ _ _ _ _ | exact Kd.Q_nil _ _ _ _ _ | exact Kd.S_nil _ _ _ _ _, by repeat (first | (with_reducible first | exact HB.out | apply below_alloc | apply pw_below_drewN | apply below_drew1) | exact HB.out)⟩

/-! ### life_Lives: function 49, given -/
def life_Lives.f (a0_0 : Int) (a0_1 : Int) (l1 : List Int) : Option (Bool) := some (Go.Proofs.Ytacdocchcfbgcaa.HLives.livesB a0_0 a0_1 l1)
theorem life_Lives.calls (a0_0 : Int) (a0_1 : Int) (A1 : Option Addr) (c1 : Nat) (l1 : List Int) (r : Bool) (w : World) (hr1 : Kd.C (Kd.int .i64) w A1 l1.length l1) (hc1 : l1.length ≤ c1) (h : life_Lives.f a0_0 a0_1 l1 = some r) :
    Calls Try.prog 49 #[.agg #[.int .i64 a0_0, .int .i64 a0_1], .slice A1 l1.length c1] w fun e w' => e = .returned (.bool r) ∧ Below w.heap.size w w' := by
  obtain rfl := Option.some.inj h
  exact Go.Proofs.Ytacdocchcfbgcaa.HLives.lives_any a0_0 a0_1 A1 c1 l1 w hr1 (Kd.C_max hr1)

/-! ### clean_Needed: function 28 -/
def clean_Needed.l0 : Nat → List Int → List Int → List (S64) → Int → Int → Option (List Int × Option Int)
  | 0, _, _, _, _, _ => none
  | k + 1, x1, x4, x17, x18, x19 => if x19 < x18 then (if 0 ≤ x19 then (if x19 < (x17.length : Int) then ((life_Lives.f ((rd_T64 x17 x19).f0) ((rd_T64 x17 x19).f1) x1).bind fun t134 => (if t134 = true then (if x4.length < 17592186044416 then (clean_Needed.l0 k x1 (x4 ++ [x19]) x17 x18 (wrap64 (x19 + 1))) else (none)) else (clean_Needed.l0 k x1 x4 x17 x18 (wrap64 (x19 + 1))))) else (none)) else (none)) else (some (x4, none))
def clean_Needed.f (k : Nat) (l0 : List (S50)) (l1 : List Int) : Option (List Int × Option Int) := (clean_Spans.f k l0).bind fun bt127 => (if bt127.2.isNone = true then (clean_Needed.l0 k l1 ([] : List Int) bt127.1 (bt127.1.length : Int) 0) else (some (([] : List Int), some (bt127.2.getD 0))))
theorem clean_Needed.mono_l : ∀ k, (∀ y0 y1 y2 y3 y4, LeO (clean_Needed.l0 k y0 y1 y2 y3 y4) (clean_Needed.l0 (k + 1) y0 y1 y2 y3 y4))
  | 0 => fun _ _ _ _ _ r h => by simp [clean_Needed.l0] at h
  | k + 1 => by
    have ih0 := clean_Needed.mono_l k
    · intro y0 y1 y2 y3 y4
      unfold clean_Needed.l0
      repeat' first
      | (with_reducible exact ih0 _ _ _ _ _)
      | (with_reducible exact clean_Spans.mono _ _)
      | (with_reducible exact LeO.refl _)
      | (with_reducible exact LeO.none _)
      | (with_reducible refine LeO.ite ?_ ?_)
      | (with_reducible refine LeO.bind ?_ (fun _ => ?_))
      | exact ih0 _ _ _ _ _
      | exact clean_Spans.mono _ _
      | exact LeO.none _
      | refine LeO.ite ?_ ?_
      | refine LeO.bind ?_ (fun _ => ?_)
theorem clean_Needed.mono : ∀ a0 a1 k, LeO (clean_Needed.f k a0 a1) (clean_Needed.f (k + 1) a0 a1) := by
  intro a0 a1 k
  have ih0 := clean_Needed.mono_l k
  unfold clean_Needed.f
  repeat' first
      | (with_reducible exact ih0 _ _ _ _ _)
      | (with_reducible exact clean_Spans.mono _ _)
      | (with_reducible exact LeO.refl _)
      | (with_reducible exact LeO.none _)
      | (with_reducible refine LeO.ite ?_ ?_)
      | (with_reducible refine LeO.bind ?_ (fun _ => ?_))
      | exact ih0 _ _ _ _ _
      | exact clean_Spans.mono _ _
      | exact LeO.none _
      | refine LeO.ite ?_ ?_
      | refine LeO.bind ?_ (fun _ => ?_)
set_option maxHeartbeats 8000000 in
set_option maxRecDepth 100000 in
theorem clean_Needed.calls (k : Nat) (A0 : Option Addr) (c0 : Nat) (l0 : List (S50)) (A1 : Option Addr) (c1 : Nat) (l1 : List Int) (r1 : List Int) (r2 : Option Int) (w : World) (hr0 : Kd.C k50 w A0 l0.length l0) (hc0 : l0.length ≤ c0) (hr1 : Kd.C (Kd.int .i64) w A1 l1.length l1) (hc1 : l1.length ≤ c1) (h : clean_Needed.f k l0 l1 = some (r1, r2)) :
    Calls Try.prog 28 #[.slice A0 l0.length c0, .slice A1 l1.length c1] w fun e w' => ∃ v0_ : Value, e = .returned (.tuple #[v0_, errW r2]) ∧ Kd.R (Kd.int .i64) 3 w' w.heap.size (fun _ => True) v0_ r1 ∧ Below w.heap.size w w' := by
  have hu64 := Try.underlying64
  have hu44 := Try.underlying44
  have hu90 := Try.underlying90
  have HR0 := Aside0.mk hr0
  have HC0 := Aside0.mk hc0
  clear hr0 hc0
  have HR1 := Aside0.mk hr1
  have HC1 := Aside0.mk hc1
  clear hr1 hc1
  have HB := Aside0.mk (Below.refl w.heap.size w)
  have H : ((clean_Spans.f k l0).bind fun bt127 => (if bt127.2.isNone = true then (clean_Needed.l0 k l1 ([] : List Int) bt127.1 (bt127.1.length : Int) 0) else (some (([] : List Int), some (bt127.2.getD 0))))) = some (r1, r2) := h
  clear h
  replace H := Option.bind_eq_some_iff.mp H
  obtain ⟨⟨t127, t128⟩, A30, H⟩ := H
  replace H : (if t128.isNone = true then (clean_Needed.l0 k l1 ([] : List Int) t127 (t127.length : Int) 0) else (some (([] : List Int), some (t128.getD 0)))) = some (r1, r2) := H
  have A3 := Aside0.mk A30
  clear A30
  rcases t128 with _ | q131
  · have H1 : (clean_Needed.l0 k l1 ([] : List Int) t127 (t127.length : Int) 0) = some (r1, r2) := by rw [if_pos (show (none : Option Int).isNone = true by rfl)] at H; exact H
    clear H
    have H := H1
    clear H1
    try simp only [errW_none, errW_some]
    have H' := Aside0.mk H
    clear H
    go_enter Try.func28, Try.ntmps28
    go_wp2_with (first | ((with_reducible refine gate_callee (f := 32) rfl ?_); refine goesL_ (some 11) rfl rfl Try.func32 (by kernel_rfl) rfl #[.slice A0 l0.length c0] rfl (by (try simp only [List.map_toArray, List.map_cons, List.map_nil]); first | done | rfl | (simp only [List.length_drop, List.length_take]; rfl)) ?_; (with_reducible refine (clean_Spans.calls k _ _ l0 t127 none _ ?side1 ?side2 A3.out).mono ?_); (case side1 => repeat (first | exact HR0.out | (with_reducible refine Kd.C_alloc ?_ _) | (with_reducible refine Kd.C_drewN ?_ _) | (with_reducible refine Kd.C_drew ?_))); (case side2 => exact HC0.out); rintro e w4 ⟨v129, rfl, ho0, hb⟩; refine ⟨_, rfl, ?_⟩; have n0_ := Aside0.mk (Kd.R_lower ho0 (below_size (by repeat (first | (with_reducible first | exact HB.out | apply below_alloc | apply pw_below_drewN | apply below_drew1) | exact HB.out)))); have n1_ := Aside0.mk (below_step (by repeat (first | (with_reducible first | exact HB.out | apply below_alloc | apply pw_below_drewN | apply below_drew1) | exact HB.out)) hb); clear HB; have HO130 := n0_; have HB := n1_; clear n0_ n1_; (try clear hb); (try clear hb2); (try clear hk); (try clear hi); (try clear ho0); (try simp only [errW_none, errW_some]); obtain ⟨Ao5, co5, eo5⟩ := Kd.R_slice HO130.out; subst eo5))
    go_loopg [4, 19] k (fun kq v4 v19 w' => ∃ (x4_1 : List Int) (x19_1 : Int), v19 = .int .i64 x19_1 ∧ Aside0 (clean_Needed.l0 kq l1 x4_1 t127 (t127.length : Int) x19_1 = some (r1, r2)) ∧ Aside0 (kq ≤ k) ∧ Aside0 (Kd.R (Kd.int .i64) 3 w' w.heap.size (fun _ => True) v4 x4_1) ∧ Aside0 (Kd.R k64 64 w' w.heap.size (fun _ => True) (.slice Ao5 t127.length co5) t127) ∧ Aside0 (Below w.heap.size w w'))
    case atStart => exact ⟨(([] : List Int)), (0), (by first | rfl | (simp; done) | (simp [*]; done)), H', ⟨Nat.le_refl _⟩, ⟨by first | exact Kd.R_nil _ _ _ _ _ | exact Kd.N_nil _ _ _ _ _ | exact Kd.V_nil _ _ _ _ _ | exact Kd.Q_nil _ _ _ _ _ | exact Kd.S_nil _ _ _ _ _⟩, ⟨by (with_reducible repeat (first | apply Kd.R_alloc | apply Kd.R_drewN | apply Kd.R_drew)); exact HO130.out⟩, ⟨by repeat (first | (with_reducible first | exact HB.out | apply below_alloc | apply pw_below_drewN | apply below_drew1) | exact HB.out)⟩⟩
    case round =>
      clear H'
      try clear c1
      try clear q1
      try clear c2
      try clear p2
      try clear c3
      try clear q131
      obtain ⟨x4_1, x19_1, rfl, HA, HK1, HO_4, HO_17, HB⟩ := hrel
      cases gk with
      | zero => exact absurd HA.out (by simp [clean_Needed.l0])
      | succ k1 =>
        have H := HA.out
        clear HA
        simp only [clean_Needed.l0] at H
        by_cases c6 : x19_1 < (t127.length : Int)
        · rw [if_pos c6] at H
          have c6b0 : decide (x19_1 < (t127.length : Int)) = true := decide_eq_true c6
          clear c6
          by_cases c7 : 0 ≤ x19_1
          · rw [if_pos c7] at H
            have c7b0 : decide (0 ≤ x19_1) = true := decide_eq_true c7
            clear c7
            by_cases c8 : x19_1 < (t127.length : Int)
            · rw [if_pos c8] at H
              have c8b0 : decide (x19_1 < (t127.length : Int)) = true := decide_eq_true c8
              clear c8
              replace H := Option.bind_eq_some_iff.mp H
              obtain ⟨t134, A90, H⟩ := H
              replace H : (if t134 = true then (if x4_1.length < 17592186044416 then (clean_Needed.l0 k1 l1 (x4_1 ++ [x19_1]) t127 (t127.length : Int) (wrap64 (x19_1 + 1))) else (none)) else (clean_Needed.l0 k1 l1 x4_1 t127 (t127.length : Int) (wrap64 (x19_1 + 1)))) = some (r1, r2) := H
              have A9 := Aside0.mk A90
              clear A90
              by_cases c10 : t134 = true
              · subst c10
                have H1 : (if x4_1.length < 17592186044416 then (clean_Needed.l0 k1 l1 (x4_1 ++ [x19_1]) t127 (t127.length : Int) (wrap64 (x19_1 + 1))) else (none)) = some (r1, r2) := by rw [if_pos rfl] at H; exact H
                clear H
                have H := H1
                clear H1
                by_cases c11 : x4_1.length < 17592186044416
                · rw [if_pos c11] at H
                  have LMc11 := Aside0.mk c11
                  clear c11
                  obtain ⟨y135, hy135⟩ : ∃ y_ : List Int, y_ = (x4_1 ++ [x19_1]) := ⟨_, rfl⟩
                  replace H : (clean_Needed.l0 k1 l1 y135 t127 (t127.length : Int) (wrap64 (x19_1 + 1))) = some (r1, r2) := by first | (rw [hy135]; with_reducible exact H) | (have H2_ := (Option.bind_some _ _).symm.trans H; rw [hy135]; with_reducible exact H2_) | (have H2_ := (Option.bind_some _ _).symm.trans H; with_reducible exact H2_) | with_reducible exact H | (rw [hy135]; exact H) | exact H
                  have Ny135 := Aside0.mk hy135
                  clear hy135
                  have H' := Aside0.mk H
                  clear H
                  have p132 : 0 ≤ (x19_1 : Int) := of_decide_eq_true (by first | (with_reducible assumption) | assumption)
                  have q132 : x19_1 < (t127.length : Int) := of_decide_eq_true (by first | (with_reducible assumption) | assumption)
                  obtain ⟨ad132, e132, hx132_0, hx132_1⟩ := at_T64 (Kd.R_reads' HO_17.out).2.2 x19_1 p132 q132
                  cases e132
                  replace p132 := eq_true p132
                  replace q132 := eq_true q132
                  go_wp2_with (first | ((with_reducible refine gate_dst (N := 8) rfl ?_); refine box_event ?hg (N := 8) ?hd (cs := #[.int .i64 0, .int .i64 0]) (t := 64) ?hr ?_; (case hd => rfl); (case hg => rfl); (case hr => first | (go_simp; done) | (go_simp; rfl)); intro gb133 hg w12 hbox hb; have n0_ := Aside0.mk (Kd.R_below (by (with_reducible repeat (first | apply Kd.R_alloc | apply Kd.R_drewN | apply Kd.R_drew)); exact HO_4.out) hb); have n1_ := Aside0.mk (Kd.R_below (Kd.R_elderB (by (with_reducible repeat (first | apply Kd.R_alloc | apply Kd.R_drewN | apply Kd.R_drew)); exact HO_17.out) gb133 (Nat.le_of_eq hg.symm)) hb); have n2_ := Aside0.mk (below_step (by repeat (first | (with_reducible first | exact HB.out | apply below_alloc | apply pw_below_drewN | apply below_drew1) | exact HB.out)) hb); have n3_ := Aside0.mk (hbox); have n4_ := Aside0.mk ((by rw [hg]; exact (below_size (by repeat (first | (with_reducible first | exact HB.out | apply below_alloc | apply pw_below_drewN | apply below_drew1) | exact HB.out))) : w.heap.size ≤ gb133)); have n5_ := Aside0.mk ((by rw [hg]; exact (below_size (by repeat (first | (with_reducible first | exact HB.out | apply below_alloc | apply pw_below_drewN | apply below_drew1) | exact HB.out))) : w.heap.size ≤ gb133)); clear HO_4; clear HO_17; clear HB; have HO_4 := n0_; have HO_17 := n1_; have HB := n2_; have BK133 := n3_; have GW133 := n4_; have GE133 := n5_; clear n0_ n1_ n2_ n3_ n4_ n5_; clear hb hbox hg; have hcz13_0 : w12.cell? ⟨gb133, 0, none⟩ = some (.int .i64 0) := (blk_cell BK133.out 0).trans rfl; have hcz13_1 : w12.cell? ⟨gb133, 1, none⟩ = some (.int .i64 0) := (blk_cell BK133.out 1).trans rfl; have hfz13_0 := blk_frozen BK133.out 0; have hfz13_1 := blk_frozen BK133.out 1) | ((with_reducible refine gate_callee (f := 49) rfl ?_); refine goesL_ (some 26) rfl rfl Try.func49 (by kernel_rfl) rfl #[.agg #[.int .i64 ((rd_T64 t127 x19_1).f0), .int .i64 ((rd_T64 t127 x19_1).f1)], .slice A1 l1.length c1] rfl (by (try simp only [List.map_toArray, List.map_cons, List.map_nil]); first | done | rfl | (simp only [List.length_drop, List.length_take]; rfl)) ?_; (with_reducible refine (life_Lives.calls ((rd_T64 t127 x19_1).f0) ((rd_T64 t127 x19_1).f1) _ _ l1 true _ ?side1 ?side2 A9.out).mono ?_); (case side1 => exact Kd.C_below HR1.out (by repeat (first | (with_reducible first | exact HB.out | apply below_alloc | apply pw_below_drewN | apply below_drew1 | refine below_set ?_ GE133.out) | exact HB.out))); (case side2 => exact HC1.out); rintro e w14 ⟨rfl, hb⟩; refine ⟨_, rfl, ?_⟩; have n0_ := Aside0.mk (Kd.R_below (by (with_reducible repeat (first | apply Kd.R_alloc | apply Kd.R_drewN | apply Kd.R_drew)); exact (Kd.R_mono (Kd.R_far (p := ⟨gb133, 1, none⟩) (Kd.R_far (p := ⟨gb133, 0, none⟩) (Kd.R_types HO_4.out BK133.out (by decide)) (fun _ hk => hk.2) (.int .i64 ((rd_T64 t127 x19_1).f0))) (fun _ hk => hk.2) (.int .i64 ((rd_T64 t127 x19_1).f1))) (fun _ h_ => h_.1))) hb); have n1_ := Aside0.mk (Kd.R_below (by (with_reducible repeat (first | apply Kd.R_alloc | apply Kd.R_drewN | apply Kd.R_drew)); exact (Kd.R_mono (Kd.R_far (p := ⟨gb133, 1, none⟩) (Kd.R_far (p := ⟨gb133, 0, none⟩) (Kd.R_mono HO_17.out (fun k_ hk => (⟨hk, hk.2⟩ : _ ∧ k_ ≠ gb133))) (fun _ hk => hk.2) (.int .i64 ((rd_T64 t127 x19_1).f0))) (fun _ hk => hk.2) (.int .i64 ((rd_T64 t127 x19_1).f1))) (fun _ h_ => h_.1))) hb); have n2_ := Aside0.mk (blk_below (g := gb133) (o := .cells #[.int .i64 ((rd_T64 t127 x19_1).f0), .int .i64 ((rd_T64 t127 x19_1).f1)] 64 (0, 0)) (by (with_reducible repeat (first | refine blk_drewN ?_ _ | refine blk_drew ?_ | refine blk_alloc ?_ _)); refine blk_put (cs := #[.int .i64 ((rd_T64 t127 x19_1).f0), .int .i64 0]) ?_ 1 _ rfl; (with_reducible repeat (first | refine blk_drewN ?_ _ | refine blk_drew ?_ | refine blk_alloc ?_ _)); refine blk_put (cs := #[.int .i64 0, .int .i64 0]) ?_ 0 _ rfl; (with_reducible repeat (first | refine blk_drewN ?_ _ | refine blk_drew ?_ | refine blk_alloc ?_ _)); exact BK133.out) hb); have n3_ := Aside0.mk (below_step (by repeat (first | (with_reducible first | exact HB.out | apply below_alloc | apply pw_below_drewN | apply below_drew1 | refine below_set ?_ GE133.out) | exact HB.out)) hb); clear HO_4; clear HO_17; clear BK133; clear HB; have HO_4 := n0_; have HO_17 := n1_; have BK133 := n2_; have HB := n3_; clear n0_ n1_ n2_ n3_; (try clear hb); (try clear hb2); (try clear hk); (try clear hi)) | ((with_reducible refine gate_builtin (b := .append) (xs := #[.tmp 27, .tmp 29]) rfl ?_); at_builtin; refine Kd.R_append (Kd.int .i64) (w0 := w) w.heap.size rfl (.tmp 27) (.tmp 29) 25 3 (.int .i64 0) 8 rfl Try.underlying25 info3 rfl (by decide) (by omega) u4 x4_1 x19_1 [.int .i64 x19_1] (fun _ => True) (fun _ => False) rfl rfl ?aP (fun _ hk => hk.elim) ?aF ?aO ?aB ?aS ?aL ?_; (case aP => exact rfl); (case aB => exact (by repeat (first | (with_reducible first | exact HB.out | apply below_alloc | apply pw_below_drewN | apply below_drew1 | refine below_set ?_ GE133.out) | exact HB.out))); (case aF => exact (fun _ _ => trivial)); (case aO => exact (by (with_reducible repeat (first | apply Kd.R_alloc | apply Kd.R_drewN | apply Kd.R_drew)); exact HO_4.out)); (case aS => exact (below_size (by repeat (first | (with_reducible first | exact HB.out | apply below_alloc | apply pw_below_drewN | apply below_drew1 | refine below_set ?_ GE133.out) | exact HB.out)))); (case aL => have := LMc11.out; omega); intro v136 w15 ho hb hg hat; rw [← Ny135.out] at ho; have n0_ := Aside0.mk (Kd.R_over' (by (with_reducible repeat (first | apply Kd.R_alloc | apply Kd.R_drewN | apply Kd.R_drew)); exact HO_17.out) (Kd.R_typed (by (with_reducible repeat (first | apply Kd.R_alloc | apply Kd.R_drewN | apply Kd.R_drew)); exact HO_4.out)) (by decide) hg); have n1_ := Aside0.mk (blk_grown (g := gb133) (o := .cells #[.int .i64 ((rd_T64 t127 x19_1).f0), .int .i64 ((rd_T64 t127 x19_1).f1)] 64 (0, 0)) (by (with_reducible repeat (first | refine blk_drewN ?_ _ | refine blk_drew ?_ | refine blk_alloc ?_ _)); exact BK133.out) hg (Kd.R_ne HO_4.out BK133.out (by decide))); have n2_ := Aside0.mk (hb); have n3_ := Aside0.mk (ho); clear HO_17; clear BK133; clear HB; clear HO_4; have HO_17 := n0_; have BK133 := n1_; have HB := n2_; have HO137 := n3_; clear n0_ n1_ n2_ n3_; clear ho hb hg hat))
                  go_roundg k1
                  case measure => have := HK1.out; omega
                  case rel => exact ⟨(y135), (wrap64 (x19_1 + 1)), (by first | rfl | (simp; done) | (simp [*]; done)), H', ⟨by have := HK1.out; omega⟩, ⟨by (with_reducible repeat (first | apply Kd.R_alloc | apply Kd.R_drewN | apply Kd.R_drew)); exact HO137.out⟩, ⟨by (with_reducible repeat (first | apply Kd.R_alloc | apply Kd.R_drewN | apply Kd.R_drew)); exact Kd.R_mono HO_17.out (fun _ hk => trivial)⟩, ⟨by repeat (first | (with_reducible first | exact HB.out | apply below_alloc | apply pw_below_drewN | apply below_drew1 | refine below_set ?_ GE133.out) | exact HB.out)⟩⟩
                · rw [if_neg c11] at H
                  exact absurd H (by simp)
              · replace c10 := Bool.eq_false_iff.mpr c10
                subst c10
                have H1 : (clean_Needed.l0 k1 l1 x4_1 t127 (t127.length : Int) (wrap64 (x19_1 + 1))) = some (r1, r2) := by rw [if_neg (show ¬ (false = true) by decide)] at H; exact H
                clear H
                have H := H1
                clear H1
                have H' := Aside0.mk H
                clear H
                have p132 : 0 ≤ (x19_1 : Int) := of_decide_eq_true (by first | (with_reducible assumption) | assumption)
                have q132 : x19_1 < (t127.length : Int) := of_decide_eq_true (by first | (with_reducible assumption) | assumption)
                obtain ⟨ad132, e132, hx132_0, hx132_1⟩ := at_T64 (Kd.R_reads' HO_17.out).2.2 x19_1 p132 q132
                cases e132
                replace p132 := eq_true p132
                replace q132 := eq_true q132
                go_wp2_with (first | ((with_reducible refine gate_dst (N := 8) rfl ?_); refine box_event ?hg (N := 8) ?hd (cs := #[.int .i64 0, .int .i64 0]) (t := 64) ?hr ?_; (case hd => rfl); (case hg => rfl); (case hr => first | (go_simp; done) | (go_simp; rfl)); intro gb133 hg w16 hbox hb; have n0_ := Aside0.mk (Kd.R_below (by (with_reducible repeat (first | apply Kd.R_alloc | apply Kd.R_drewN | apply Kd.R_drew)); exact HO_4.out) hb); have n1_ := Aside0.mk (Kd.R_below (Kd.R_elderB (by (with_reducible repeat (first | apply Kd.R_alloc | apply Kd.R_drewN | apply Kd.R_drew)); exact HO_17.out) gb133 (Nat.le_of_eq hg.symm)) hb); have n2_ := Aside0.mk (below_step (by repeat (first | (with_reducible first | exact HB.out | apply below_alloc | apply pw_below_drewN | apply below_drew1) | exact HB.out)) hb); have n3_ := Aside0.mk (hbox); have n4_ := Aside0.mk ((by rw [hg]; exact (below_size (by repeat (first | (with_reducible first | exact HB.out | apply below_alloc | apply pw_below_drewN | apply below_drew1) | exact HB.out))) : w.heap.size ≤ gb133)); have n5_ := Aside0.mk ((by rw [hg]; exact (below_size (by repeat (first | (with_reducible first | exact HB.out | apply below_alloc | apply pw_below_drewN | apply below_drew1) | exact HB.out))) : w.heap.size ≤ gb133)); clear HO_4; clear HO_17; clear HB; have HO_4 := n0_; have HO_17 := n1_; have HB := n2_; have BK133 := n3_; have GW133 := n4_; have GE133 := n5_; clear n0_ n1_ n2_ n3_ n4_ n5_; clear hb hbox hg; have hcz17_0 : w16.cell? ⟨gb133, 0, none⟩ = some (.int .i64 0) := (blk_cell BK133.out 0).trans rfl; have hcz17_1 : w16.cell? ⟨gb133, 1, none⟩ = some (.int .i64 0) := (blk_cell BK133.out 1).trans rfl; have hfz17_0 := blk_frozen BK133.out 0; have hfz17_1 := blk_frozen BK133.out 1) | ((with_reducible refine gate_callee (f := 49) rfl ?_); refine goesL_ (some 26) rfl rfl Try.func49 (by kernel_rfl) rfl #[.agg #[.int .i64 ((rd_T64 t127 x19_1).f0), .int .i64 ((rd_T64 t127 x19_1).f1)], .slice A1 l1.length c1] rfl (by (try simp only [List.map_toArray, List.map_cons, List.map_nil]); first | done | rfl | (simp only [List.length_drop, List.length_take]; rfl)) ?_; (with_reducible refine (life_Lives.calls ((rd_T64 t127 x19_1).f0) ((rd_T64 t127 x19_1).f1) _ _ l1 false _ ?side1 ?side2 A9.out).mono ?_); (case side1 => exact Kd.C_below HR1.out (by repeat (first | (with_reducible first | exact HB.out | apply below_alloc | apply pw_below_drewN | apply below_drew1 | refine below_set ?_ GE133.out) | exact HB.out))); (case side2 => exact HC1.out); rintro e w18 ⟨rfl, hb⟩; refine ⟨_, rfl, ?_⟩; have n0_ := Aside0.mk (Kd.R_below (by (with_reducible repeat (first | apply Kd.R_alloc | apply Kd.R_drewN | apply Kd.R_drew)); exact (Kd.R_mono (Kd.R_far (p := ⟨gb133, 1, none⟩) (Kd.R_far (p := ⟨gb133, 0, none⟩) (Kd.R_types HO_4.out BK133.out (by decide)) (fun _ hk => hk.2) (.int .i64 ((rd_T64 t127 x19_1).f0))) (fun _ hk => hk.2) (.int .i64 ((rd_T64 t127 x19_1).f1))) (fun _ h_ => h_.1))) hb); have n1_ := Aside0.mk (Kd.R_below (by (with_reducible repeat (first | apply Kd.R_alloc | apply Kd.R_drewN | apply Kd.R_drew)); exact (Kd.R_mono (Kd.R_far (p := ⟨gb133, 1, none⟩) (Kd.R_far (p := ⟨gb133, 0, none⟩) (Kd.R_mono HO_17.out (fun k_ hk => (⟨hk, hk.2⟩ : _ ∧ k_ ≠ gb133))) (fun _ hk => hk.2) (.int .i64 ((rd_T64 t127 x19_1).f0))) (fun _ hk => hk.2) (.int .i64 ((rd_T64 t127 x19_1).f1))) (fun _ h_ => h_.1))) hb); have n2_ := Aside0.mk (blk_below (g := gb133) (o := .cells #[.int .i64 ((rd_T64 t127 x19_1).f0), .int .i64 ((rd_T64 t127 x19_1).f1)] 64 (0, 0)) (by (with_reducible repeat (first | refine blk_drewN ?_ _ | refine blk_drew ?_ | refine blk_alloc ?_ _)); refine blk_put (cs := #[.int .i64 ((rd_T64 t127 x19_1).f0), .int .i64 0]) ?_ 1 _ rfl; (with_reducible repeat (first | refine blk_drewN ?_ _ | refine blk_drew ?_ | refine blk_alloc ?_ _)); refine blk_put (cs := #[.int .i64 0, .int .i64 0]) ?_ 0 _ rfl; (with_reducible repeat (first | refine blk_drewN ?_ _ | refine blk_drew ?_ | refine blk_alloc ?_ _)); exact BK133.out) hb); have n3_ := Aside0.mk (below_step (by repeat (first | (with_reducible first | exact HB.out | apply below_alloc | apply pw_below_drewN | apply below_drew1 | refine below_set ?_ GE133.out) | exact HB.out)) hb); clear HO_4; clear HO_17; clear BK133; clear HB; have HO_4 := n0_; have HO_17 := n1_; have BK133 := n2_; have HB := n3_; clear n0_ n1_ n2_ n3_; (try clear hb); (try clear hb2); (try clear hk); (try clear hi)))
                go_roundg k1
                case measure => have := HK1.out; omega
                case rel => exact ⟨(x4_1), (wrap64 (x19_1 + 1)), (by first | rfl | (simp; done) | (simp [*]; done)), H', ⟨by have := HK1.out; omega⟩, ⟨by (with_reducible repeat (first | apply Kd.R_alloc | apply Kd.R_drewN | apply Kd.R_drew)); exact HO_4.out⟩, ⟨by (with_reducible repeat (first | apply Kd.R_alloc | apply Kd.R_drewN | apply Kd.R_drew)); exact Kd.R_mono HO_17.out (fun _ hk => trivial)⟩, ⟨by repeat (first | (with_reducible first | exact HB.out | apply below_alloc | apply pw_below_drewN | apply below_drew1 | refine below_set ?_ GE133.out) | exact HB.out)⟩⟩
            · rw [if_neg c8] at H
              exact absurd H (by simp)
          · rw [if_neg c7] at H
            exact absurd H (by simp)
        · rw [if_neg c6] at H
          have c6b0 : decide (x19_1 < (t127.length : Int)) = false := decide_eq_false c6
          clear c6
          simp only [Option.some.injEq, Prod.mk.injEq] at H
          obtain ⟨rfl, rfl⟩ := H
          go_wp2
          go_ret2
          exact ⟨_, by first | rfl | (simp [errW_none, errW_some] <;> rfl) | (simp [*, errW_none, errW_some] <;> rfl), by (with_reducible repeat (first | apply Kd.R_alloc | apply Kd.R_drewN | apply Kd.R_drew)); exact HO_4.out, by repeat (first | (with_reducible first | exact HB.out | apply below_alloc | apply pw_below_drewN | apply below_drew1) | exact HB.out)⟩
  · have H1 : (some (([] : List Int), some q131)) = some (r1, r2) := by rw [if_neg (show ¬ (some q131).isNone = true by simp)] at H; exact H
    clear H
    have H := H1
    clear H1
    try simp only [errW_none, errW_some]
    simp only [Option.some.injEq, Prod.mk.injEq] at H
    obtain ⟨rfl, rfl⟩ := H
    go_enter Try.func28, Try.ntmps28
    go_wp2_with (first | ((with_reducible refine gate_callee (f := 32) rfl ?_); refine goesL_ (some 11) rfl rfl Try.func32 (by kernel_rfl) rfl #[.slice A0 l0.length c0] rfl (by (try simp only [List.map_toArray, List.map_cons, List.map_nil]); first | done | rfl | (simp only [List.length_drop, List.length_take]; rfl)) ?_; (with_reducible refine (clean_Spans.calls k _ _ l0 t127 (some q131) _ ?side1 ?side2 A3.out).mono ?_); (case side1 => repeat (first | exact HR0.out | (with_reducible refine Kd.C_alloc ?_ _) | (with_reducible refine Kd.C_drewN ?_ _) | (with_reducible refine Kd.C_drew ?_))); (case side2 => exact HC0.out); rintro e w19 ⟨v129, rfl, ho0, hb⟩; refine ⟨_, rfl, ?_⟩; have n0_ := Aside0.mk (Kd.R_lower ho0 (below_size (by repeat (first | (with_reducible first | exact HB.out | apply below_alloc | apply pw_below_drewN | apply below_drew1) | exact HB.out)))); have n1_ := Aside0.mk (below_step (by repeat (first | (with_reducible first | exact HB.out | apply below_alloc | apply pw_below_drewN | apply below_drew1) | exact HB.out)) hb); clear HB; have HO130 := n0_; have HB := n1_; clear n0_ n1_; (try clear hb); (try clear hb2); (try clear hk); (try clear hi); (try clear ho0); (try simp only [errW_none, errW_some])))
    go_ret2
    exact ⟨_, by first | rfl | (simp [errW_none, errW_some] <;> rfl) | (simp [*, errW_none, errW_some] <;> rfl), by first | exact Kd.R_nil _ _ _ _ _ | exact Kd.N_nil _ _ _ _ _ | exact Kd.V_nil _ _ _ _ _ | exact Kd.Q_nil _ _ _ _ _ | exact Kd.S_nil _ _ _ _ _, by repeat (first | (with_reducible first | exact HB.out | apply below_alloc | apply pw_below_drewN | apply below_drew1) | exact HB.out)⟩

/-! ### clean_own: function 50, given -/
def clean_own.f (a0_0 : Int) (a0_1 : Int) (a0_2 : Int) (l0_3 : List Int) (a0_4 : ByteArray) (a0_5 : Int) : Option (Int × Int × Int × List Int × ByteArray × Int) := if a0_0 = 1 then (some (a0_0, a0_1, a0_2, l0_3, (⟨#[]⟩ : ByteArray), 0)) else (if a0_0 = 2 then (some (a0_0, a0_1, a0_2, ([] : List Int), (⟨#[]⟩ : ByteArray), 0)) else (if a0_0 = 3 then (some (a0_0, a0_1, 0, ([] : List Int), a0_4, a0_5)) else (if a0_0 = 4 then (some (a0_0, a0_1, 0, ([] : List Int), a0_4, 0)) else (if a0_0 = 5 then (some (a0_0, a0_1, 0, ([] : List Int), (⟨#[]⟩ : ByteArray), a0_5)) else (some (a0_0, a0_1, 0, ([] : List Int), (⟨#[]⟩ : ByteArray), 0))))))
theorem clean_own.calls (a0_0 : Int) (a0_1 : Int) (a0_2 : Int) (P0_3_ : Nat → Prop) (u9000_ : Value) (l0_3 : List Int) (a0_4 : ByteArray) (a0_5 : Int) (r1 : Int) (r2 : Int) (r3 : Int) (r4 : List Int) (r5 : ByteArray) (r6 : Int) (w0 w : World) (hB : Below w0.heap.size w0 w) (ho0_3 : Kd.R (Kd.int .u8) 5 w w0.heap.size P0_3_ u9000_ l0_3) (h : clean_own.f a0_0 a0_1 a0_2 l0_3 a0_4 a0_5 = some (r1, r2, r3, r4, r5, r6)) :
    Calls Try.prog 50 #[.agg #[.int .i64 a0_0, .int .i64 a0_1, .int .i64 a0_2, u9000_, .string a0_4, .int .i64 a0_5]] w fun e w' => ∃ v3_ : Value, e = .returned (.agg #[.int .i64 r1, .int .i64 r2, .int .i64 r3, v3_, .string r5, .int .i64 r6]) ∧ Kd.R (Kd.int .u8) 5 w' w0.heap.size (fun k_ => (P0_3_ k_ ∨ w.heap.size ≤ k_)) v3_ r4 ∧ Below w0.heap.size w0 w' ∧ Kept w w' (fun k_ => P0_3_ k_) := by
  obtain ⟨A, c, rfl⟩ := Kd.R_slice ho0_3
  refine (Go.Proofs.Ytacdocchcfbgcaa.HOwn.own_any a0_0 a0_1 a0_2 A l0_3.length c a0_4 a0_5 w).mono ?_
  rintro e w' ⟨rfl, hb⟩
  have hB' : Below w0.heap.size w0 w' := below_then hB hB.size hb
  have hK : Kept w w' (fun k_ => P0_3_ k_) := Kept.of_below hb _
  unfold clean_own.f at h
  unfold Go.Proofs.Ytacdocchcfbgcaa.HOwn.ownV
  by_cases h1 : a0_0 = 1
  · rw [if_pos h1] at h ⊢
    simp only [Option.some.injEq, Prod.mk.injEq] at h
    obtain ⟨rfl, rfl, rfl, rfl, rfl, rfl⟩ := h
    exact ⟨_, rfl, Kd.R_mono (Kd.R_below ho0_3 hb) (fun _ hk => .inl hk), hB', hK⟩
  · rw [if_neg h1] at h ⊢
    by_cases h2 : a0_0 = 2
    · rw [if_pos h2] at h ⊢
      simp only [Option.some.injEq, Prod.mk.injEq] at h
      obtain ⟨rfl, rfl, rfl, rfl, rfl, rfl⟩ := h
      exact ⟨_, rfl, Kd.R_nil _ _ _ _ _, hB', hK⟩
    · rw [if_neg h2] at h ⊢
      by_cases h3 : a0_0 = 3
      · rw [if_pos h3] at h ⊢
        simp only [Option.some.injEq, Prod.mk.injEq] at h
        obtain ⟨rfl, rfl, rfl, rfl, rfl, rfl⟩ := h
        exact ⟨_, rfl, Kd.R_nil _ _ _ _ _, hB', hK⟩
      · rw [if_neg h3] at h ⊢
        by_cases h4 : a0_0 = 4
        · rw [if_pos h4] at h ⊢
          simp only [Option.some.injEq, Prod.mk.injEq] at h
          obtain ⟨rfl, rfl, rfl, rfl, rfl, rfl⟩ := h
          exact ⟨_, rfl, Kd.R_nil _ _ _ _ _, hB', hK⟩
        · rw [if_neg h4] at h ⊢
          by_cases h5 : a0_0 = 5
          · rw [if_pos h5] at h ⊢
            simp only [Option.some.injEq, Prod.mk.injEq] at h
            obtain ⟨rfl, rfl, rfl, rfl, rfl, rfl⟩ := h
            exact ⟨_, rfl, Kd.R_nil _ _ _ _ _, hB', hK⟩
          · rw [if_neg h5] at h ⊢
            simp only [Option.some.injEq, Prod.mk.injEq] at h
            obtain ⟨rfl, rfl, rfl, rfl, rfl, rfl⟩ := h
            exact ⟨_, rfl, Kd.R_nil _ _ _ _ _, hB', hK⟩

/-! ### clean_Thorough: function 31, given -/
def ownE (e : S50) : S50 :=
  if e.f0 = 1 then ⟨e.f0, e.f1, e.f2, e.f3, ⟨#[]⟩, 0⟩ else if e.f0 = 2 then ⟨e.f0, e.f1, e.f2, [], ⟨#[]⟩, 0⟩ else if e.f0 = 3 then ⟨e.f0, e.f1, 0, [], e.f4, e.f5⟩
  else if e.f0 = 4 then ⟨e.f0, e.f1, 0, [], e.f4, 0⟩ else if e.f0 = 5 then ⟨e.f0, e.f1, 0, [], ⟨#[]⟩, e.f5⟩ else ⟨e.f0, e.f1, 0, [], ⟨#[]⟩, 0⟩
def thor (l0 : List S50) : List Int → List S50 → Option (List S50)
  | [], acc => some acc
  | i :: r, acc => if 0 ≤ i ∧ i < (l0.length : Int) ∧ acc.length < 1954687338268 ∧ (rd_T50 l0 i).f3.length < 140737488355328 then thor l0 r (acc ++ [ownE (rd_T50 l0 i)]) else none
def clean_Thorough.f (k : Nat) (l0 : List S50) (l1 : List Int) : Option (List S50 × Option Int) :=
  (clean_Needed.f k l0 l1).bind fun bt => if bt.2.isNone = true then (thor l0 bt.1 []).map (fun r => (r, none)) else some ([], some (bt.2.getD 0))
theorem clean_Thorough.mono : ∀ a0 a1 k, LeO (clean_Thorough.f k a0 a1) (clean_Thorough.f (k + 1) a0 a1) := fun a0 a1 k => LeO.bind (clean_Needed.mono _ _ _) (fun _ => LeO.refl _)
theorem own_FK {W : World} {ok : Nat → Prop} {x : S50} {A : Option Addr} {c : Nat} (hl : x.f3.length ≤ c) (hF : Kd.F (Kd.int .u8) W ok A x.f3.length x.f3) :
    ∃ (o' : Int) (A' : Option Addr) (n' c' : Nat) (s' : ByteArray) (i' : Int), Go.Proofs.Ytacdocchcfbgcaa.HOwn.ownV x.f0 x.f1 x.f2 A x.f3.length c x.f4 x.f5 = #[.int .i64 x.f0, .int .i64 x.f1, .int .i64 o', .slice A' n' c', .string s', .int .i64 i'] ∧
      Kd.FK k50 W ok (ownE x) [.int .i64 x.f0, .int .i64 x.f1, .int .i64 o', .slice A' n' c', .string s', .int .i64 i'] := by
  unfold Go.Proofs.Ytacdocchcfbgcaa.HOwn.ownV ownE
  split
  · exact ⟨_, _, _, _, _, _, rfl, k50_mkF W ok ⟨x.f0, x.f1, x.f2, x.f3, ⟨#[]⟩, 0⟩ hl hF⟩
  · split
    · exact ⟨_, _, _, _, _, _, rfl, k50_mkF W ok ⟨x.f0, x.f1, x.f2, [], ⟨#[]⟩, 0⟩ (Nat.le_refl 0) (Kd.F_nil _ _ _)⟩
    · split
      · exact ⟨_, _, _, _, _, _, rfl, k50_mkF W ok ⟨x.f0, x.f1, 0, [], x.f4, x.f5⟩ (Nat.le_refl 0) (Kd.F_nil _ _ _)⟩
      · split
        · exact ⟨_, _, _, _, _, _, rfl, k50_mkF W ok ⟨x.f0, x.f1, 0, [], x.f4, 0⟩ (Nat.le_refl 0) (Kd.F_nil _ _ _)⟩
        · split
          · exact ⟨_, _, _, _, _, _, rfl, k50_mkF W ok ⟨x.f0, x.f1, 0, [], ⟨#[]⟩, x.f5⟩ (Nat.le_refl 0) (Kd.F_nil _ _ _)⟩
          · exact ⟨_, _, _, _, _, _, rfl, k50_mkF W ok ⟨x.f0, x.f1, 0, [], ⟨#[]⟩, 0⟩ (Nat.le_refl 0) (Kd.F_nil _ _ _)⟩
set_option maxHeartbeats 2000000 in
set_option maxRecDepth 100000 in
theorem clean_Thorough.calls (k : Nat) (A0 : Option Addr) (c0 : Nat) (l0 : List S50) (A1 : Option Addr) (c1 : Nat) (l1 : List Int) (r1 : List S50) (r2 : Option Int) (w : World) (hr0 : Kd.C k50 w A0 l0.length l0) (hc0 : l0.length ≤ c0) (hr1 : Kd.C (Kd.int .i64) w A1 l1.length l1) (hc1 : l1.length ≤ c1) (h : clean_Thorough.f k l0 l1 = some (r1, r2)) :
    Calls Try.prog 31 #[.slice A0 l0.length c0, .slice A1 l1.length c1] w fun e w' => ∃ v0_ : Value, e = .returned (.tuple #[v0_, errW r2]) ∧ Kd.V k50 50 w' w.heap.size (fun k_ => w.heap.size ≤ k_) v0_ r1 ∧ Below w.heap.size w w' := by
  have hu50 := Try.underlying50
  have hu44 := Try.underlying44
  have HR0 := Aside0.mk hr0
  have HC0 := Aside0.mk hc0
  have HR1 := Aside0.mk hr1
  have HC1 := Aside0.mk hc1
  clear hr0 hc0 hr1 hc1
  obtain ⟨⟨need, oe⟩, hn, h⟩ := Option.bind_eq_some_iff.mp h
  have HN := Aside0.mk hn
  clear hn
  cases oe with
  | some q =>
    replace h : some (([] : List S50), some q) = some (r1, r2) := h
    simp only [Option.some.injEq, Prod.mk.injEq] at h
    obtain ⟨rfl, rfl⟩ := h
    go_enter Try.func31, Try.ntmps31
    go_wp2_with (go_at_call 28; refine (clean_Needed.calls k _ _ l0 _ _ l1 need (some q) _ HR0.out HC0.out HR1.out HC1.out HN.out).mono ?_; rintro e w4 ⟨v218, rfl, ho0, hb⟩; have HB := Aside0.mk hb; clear hb ho0; simp only [errW_none, errW_some])
    go_ret2
    exact ⟨_, by simp [errW_none, errW_some], Kd.V_nil _ _ _ _ _, HB.out⟩
  | none =>
    replace h : (thor l0 need []).map (fun r => (r, (none : Option Int))) = some (r1, r2) := h
    obtain ⟨r1', ht, he⟩ := Option.map_eq_some_iff.mp h
    simp only [Prod.mk.injEq] at he
    obtain ⟨rfl, rfl⟩ := he
    have HT := Aside0.mk ht
    clear h ht
    go_enter Try.func31, Try.ntmps31
    go_wp2_with (go_at_call 28; refine (clean_Needed.calls k _ _ l0 _ _ l1 need none _ HR0.out HC0.out HR1.out HC1.out HN.out).mono ?_; rintro e w4 ⟨v218, rfl, ho0, hb⟩; have HB := Aside0.mk hb; obtain ⟨An, cn, rfl⟩ := Kd.R_slice ho0; have HNd := Aside0.mk (Kd.R_reads' ho0).2.2; have HBase := Aside0.mk (Below.refl w4.heap.size w4); clear hb ho0; simp only [errW_none, errW_some])
    go_loopw [4, 21] (fun v4 v21 w' => ∃ (j : Nat) (acc : List S50), v21 = .int .i64 j ∧ j ≤ need.length ∧ Aside0 (thor l0 (need.drop j) acc = some r1') ∧ Aside0 (Kd.N k50 50 w' w4.heap.size (fun k_ => w4.heap.size ≤ k_) v4 acc) ∧ Aside0 (Below w4.heap.size w4 w')) (fun _ v21 _ => need.length - (intOf v21).toNat)
    case atStart => exact ⟨0, [], rfl, Nat.zero_le _, HT, ⟨Kd.N_nil _ _ _ _ _⟩, HBase⟩
    case round =>
      clear HT HBase
      obtain ⟨j, acc, rfl, hj, HT, HO, HB4⟩ := hrel
      have hm4 : need.length ≤ 9223372036854775807 := HNd.out.2.1
      by_cases hlt : j < need.length
      · have hlt' : (j : Int) < (need.length : Int) := by omega
        have ht := HT.out
        clear HT
        rw [List.drop_eq_getElem_cons hlt] at ht
        unfold thor at ht
        split at ht
        · rename_i hc
          obtain ⟨h1, h2, h3, h4⟩ := hc
          have HT := Aside0.mk ht
          clear ht
          obtain ⟨ad, e, hx⟩ := Kd.at_int (Kd.C_below HNd.out HB4.out) (j : Int) (by omega) hlt'
          cases e
          rw [show rd need (j : Int) = need[j] from by unfold rd; simp [hlt]] at hx
          rw [Int.toNat_natCast] at hx
          obtain ⟨ae, A3, c3, rfl, e0, e1, e2, e3, e4, e5, e6, e7⟩ := at_T50 (Kd.C_below (Kd.C_below HR0.out HB.out) HB4.out) need[j] h1 h2
          have hm0 : l0.length ≤ 9223372036854775807 := HR0.out.2.1
          generalize rd_T50 l0 need[j] = x at *
          generalize need[j] = i at *
          obtain ⟨x0, x1, x2, x3, x4, x5⟩ := x
          dsimp only at *
          have E6 := Aside0.mk e6
          have E7 := Aside0.mk e7
          have H3 := Aside0.mk h3
          have H4 := Aside0.mk h4
          clear e6 e7 h3 h4 HR0 HC0 HR1 HC1 HN
          have b1 : decide (0 ≤ i) = true := decide_eq_true h1
          have b2 : decide (i < (l0.length : Int)) = true := decide_eq_true h2
          have HJ := Aside0.mk hj
          have HS := Aside0.mk (below_size HB4.out)
          have HL := Aside0.mk (Kd.N_lt HO.out)
          clear hj hlt
          go_wp2_with (first | ((with_reducible refine gate_builtin (b := .append) (xs := #[.const (.slice none 0 0), .tmp 30]) rfl ?_); at_builtin; (refine Kd.R_append_rows (Kd.int .u8) (w0 := w4) w4.heap.size rfl (.const (.slice none 0 0)) (.tmp 30) 30 5 (.int .u8 0) 1 rfl Try.underlying30 (by rfl) rfl (by decide) (by omega) (.slice none 0 0) ([] : List Int) x3 _ _ _ (fun k_ => wr.heap.size < k_) (fun _ => False) rfl rfl ?aO ?aR (fun _ _ h => h) (fun _ h => h.elim) ?aF ?aB ?aS ?aL ?_; (case aR => exact Kd.C_alloc E7.out _); (case aB => exact below_alloc HB4.out _); (case aF => exact (fun k hk => by have := hk; simp at this; omega)); (case aO => exact Kd.R_nil _ _ _ _ _); (case aS => exact below_size (below_alloc HB4.out _)); (case aL => have := H4.out; simp only [List.length_nil]; omega); intro v225 w16 ho hb hg hat; rw [List.nil_append] at ho; have BK : w16.heap[wr.heap.size]? = some (.cells #[.int .i64 x0, .int .i64 x1, .int .i64 x2, .slice A3 x3.length c3, .string x4, .int .i64 x5] 50 (0, 0)) := (hg.block _ (by simp) (by simp [Value.ownBlock])).trans (heap_alloc_new wr _); have HO2 := Aside0.mk (Kd.N_grown (Kd.N_alloc (Kd.N_elderB HO.out wr.heap.size (Nat.le_refl _)) _) hg (fun _ _ => by simp [Value.ownBlock])); obtain ⟨Ad, cd, rfl⟩ := Kd.R_slice ho; have HD := Aside0.mk (Kd.N_F (Kd.R_N ho)); have HDl := Aside0.mk (Kd.R_reads' ho).2.1; have HB5 := Aside0.mk hb; have hcz_0 := blk_cell BK 0; have hcz_1 := blk_cell BK 1; have hcz_2 := blk_cell BK 2; have hcz_3 := blk_cell BK 3; have hcz_4 := blk_cell BK 4; have hcz_5 := blk_cell BK 5; have hfz_3 := blk_frozen BK 3; have hgs : Aside0 (wr.heap.size < w16.heap.size) := ⟨by have := Nat.lt_of_lt_of_le (Nat.lt_succ_self wr.heap.size) (by simpa using hg.size : wr.heap.size + 1 ≤ w16.heap.size); exact this⟩; clear ho hb hg hat BK HO HB4)) | (go_at_call 50; (refine (Go.Proofs.Ytacdocchcfbgcaa.HOwn.own_any x0 x1 x2 Ad x3.length cd x4 x5 _).mono ?_; rintro e w17 ⟨rfl, hb⟩; have HO3 := Aside0.mk (Kd.N_below (Kd.N_far (p := ⟨wr.heap.size, 3, none⟩) HO2.out (fun _ hk => hk.2) (.slice Ad x3.length cd)) hb); have HD2 := Aside0.mk (Kd.F_below (Kd.F_far (p := ⟨wr.heap.size, 3, none⟩) HD.out (fun k_ hk => by intro he; have h1_ : wr.heap.size < k_ := hk; have h2_ : k_ = wr.heap.size := he; omega) (.slice Ad x3.length cd)) hb); have HB6 := Aside0.mk (below_step (Below.setCell HB5.out HS.out _) hb); obtain ⟨o', A', n', c', s', i', hov, hfk⟩ := own_FK (x := ⟨x0, x1, x2, x3, x4, x5⟩) HDl.out HD2.out; dsimp only at hov; rw [hov]; have HFK := Aside0.mk hfk; clear HO2 HD HB5 hb hov hfk)) | ((with_reducible refine gate_builtin (b := .append) (xs := #[.tmp 33, .tmp 36]) rfl ?_); at_builtin; (refine Kd.N_append k50 (w0 := w4) w4.heap.size rfl (.tmp 33) (.tmp 36) 27 50 (.agg #[.int .i64 0, .int .i64 0, .int .i64 0, .slice none 0 0, .string ⟨#[]⟩, .int .i64 0]) 72 rfl Try.underlying27 (by rfl) rfl (by decide) (by omega) _ acc (ownE ⟨x0, x1, x2, x3, x4, x5⟩) _ (fun k_ => w4.heap.size ≤ k_) (fun k_ => wr.heap.size < k_) rfl rfl HFK.out ?aK ?aF ?aO ?aB ?aS ?aL ?_; (case aK => exact fun k hk => ⟨by have := HS.out; omega, fun he => by have := HL.out k he.symm; omega⟩); (case aF => exact fun k hk => Nat.le_trans (below_size HB6.out) hk); (case aO => exact Kd.N_mono HO3.out (fun _ hk => hk.1)); (case aB => exact HB6.out); (case aS => exact below_size HB6.out); (case aL => have := H3.out; omega); intro v1 w18 ho hb hg hat; have HO4 := Aside0.mk ho; have HB7 := Aside0.mk hb; clear ho hb hg hat HO3 HB6)))
          go_roundw
          case rel => exact ⟨j + 1, acc ++ [ownE ⟨x0, x1, x2, x3, x4, x5⟩], by go_num, by have := HJ.out; omega, HT, HO4, HB7⟩
          case measure => simp [intOf]; omega
        · cases ht
      · have HE : Aside0 (r1' = acc) := ⟨by
          have := HT.out
          rw [List.drop_eq_nil_of_le (by omega)] at this
          exact (Option.some.inj this).symm⟩
        go_wp2
        go_ret2
        exact ⟨_, by first | rfl | simp [errW_none], by rw [HE.out]; exact Kd.V_mono (Kd.N_V HO.out) (fun k hk => Nat.le_trans (below_size HB.out) hk), below_then HB.out HB.out.size HB4.out⟩

end Go.Proofs.Ytacdocchcfbgcaa.Q
