-- printed by wip/mp.py (the kit's print, with given functions); Lean checks it
import Derived.Test.YtacdocchcfbgcaaQx0
import Derived.Test.YtacdocchcfbgcaaQx5
import Derived.Test.YtacdocchcfbgcaaQx6
namespace Go.Proofs.Ytacdocchcfbgcaa.Q
open Go.RowKit Go.Proofs.YtacdocchcfbgcaaW.PrintWords Go.Proofs.YtacdocchcfbgcaaW.PrintLast Go.Proofs.YtacdocchcfbgcaaW.PrintMore
attribute [local go_sem] max2_int min2_int max_two min_two max_three min_three max_four min_four   -- for this text's walks alone
set_option linter.unusedVariables false
set_option linter.unusedSimpArgs false

/-! ### clean_Spans: function 32 -/
def clean_Spans.l0 : Nat → List (S50) → List (S64) → Int → Int → Option ((List (S64)) × Option Int)
  | 0, _, _, _, _ => none
  | k + 1, x0, x2, x16, x17 => if x17 < x16 then ((clean_span.f k x0 x17).bind fun bt130 => (if x2.length < 8796093022208 then (clean_Spans.l0 k x0 (x2 ++ [(⟨bt130.1, bt130.2⟩ : S64)]) x16 (wrap64 (x17 + 1))) else (none))) else (some (x2, none))
def clean_Spans.f (k : Nat) (l0 : List (S50)) : Option ((List (S64)) × Option Int) := (fold_Check.f k l0).bind fun bt127 => (if bt127.2.isNone = true then (clean_Spans.l0 k l0 ([] : List (S64)) (l0.length : Int) 0) else (some (([] : List (S64)), some (bt127.2.getD 0))))
theorem clean_Spans.mono_l : ∀ k, (∀ y0 y1 y2 y3, LeO (clean_Spans.l0 k y0 y1 y2 y3) (clean_Spans.l0 (k + 1) y0 y1 y2 y3))
  | 0 => fun _ _ _ _ r h => by simp [clean_Spans.l0] at h
  | k + 1 => by
    have ih0 := clean_Spans.mono_l k
    · intro y0 y1 y2 y3
      unfold clean_Spans.l0
      repeat' first
      | (with_reducible exact ih0 _ _ _ _)
      | (with_reducible exact clean_span.mono _ _ _)
      | (with_reducible exact fold_Check.mono _ _)
      | (with_reducible exact LeO.refl _)
      | (with_reducible exact LeO.none _)
      | (with_reducible refine LeO.ite ?_ ?_)
      | (with_reducible refine LeO.bind ?_ (fun _ => ?_))
      | exact ih0 _ _ _ _
      | exact clean_span.mono _ _ _
      | exact fold_Check.mono _ _
      | exact LeO.none _
      | refine LeO.ite ?_ ?_
      | refine LeO.bind ?_ (fun _ => ?_)
theorem clean_Spans.mono : ∀ a0 k, LeO (clean_Spans.f k a0) (clean_Spans.f (k + 1) a0) := by
  intro a0 k
  have ih0 := clean_Spans.mono_l k
  unfold clean_Spans.f
  repeat' first
      | (with_reducible exact ih0 _ _ _ _)
      | (with_reducible exact clean_span.mono _ _ _)
      | (with_reducible exact fold_Check.mono _ _)
      | (with_reducible exact LeO.refl _)
      | (with_reducible exact LeO.none _)
      | (with_reducible refine LeO.ite ?_ ?_)
      | (with_reducible refine LeO.bind ?_ (fun _ => ?_))
      | exact ih0 _ _ _ _
      | exact clean_span.mono _ _ _
      | exact fold_Check.mono _ _
      | exact LeO.none _
      | refine LeO.ite ?_ ?_
      | refine LeO.bind ?_ (fun _ => ?_)
set_option maxHeartbeats 8000000 in
set_option maxRecDepth 100000 in
theorem clean_Spans.calls (k : Nat) (A0 : Option Addr) (c0 : Nat) (l0 : List (S50)) (r1 : List (S64)) (r2 : Option Int) (w : World) (hr0 : Kd.C k50 w A0 l0.length l0) (hc0 : l0.length ≤ c0) (h : clean_Spans.f k l0 = some (r1, r2)) :
    Calls Try.prog 32 #[.slice A0 l0.length c0] w fun e w' => ∃ v0_ : Value, e = .returned (.tuple #[v0_, errW r2]) ∧ Kd.R k64 64 w' w.heap.size (fun _ => True) v0_ r1 ∧ Below w.heap.size w w' := by
  have hu44 := Try.underlying44
  have hu90 := Try.underlying90
  have HR0 := Aside0.mk hr0
  have HC0 := Aside0.mk hc0
  clear hr0 hc0
  have HB := Aside0.mk (Below.refl w.heap.size w)
  have H : ((fold_Check.f k l0).bind fun bt127 => (if bt127.2.isNone = true then (clean_Spans.l0 k l0 ([] : List (S64)) (l0.length : Int) 0) else (some (([] : List (S64)), some (bt127.2.getD 0))))) = some (r1, r2) := h
  clear h
  replace H := Option.bind_eq_some_iff.mp H
  obtain ⟨⟨t127, t128⟩, A20, H⟩ := H
  replace H : (if t128.isNone = true then (clean_Spans.l0 k l0 ([] : List (S64)) (l0.length : Int) 0) else (some (([] : List (S64)), some (t128.getD 0)))) = some (r1, r2) := H
  have A2 := Aside0.mk A20
  clear A20
  rcases t128 with _ | q129
  · have H1 : (clean_Spans.l0 k l0 ([] : List (S64)) (l0.length : Int) 0) = some (r1, r2) := by rw [if_pos (show (none : Option Int).isNone = true by rfl)] at H; exact H
    clear H
    have H := H1
    clear H1
    try simp only [errW_none, errW_some]
    have H' := Aside0.mk H
    clear H
    go_enter Try.func32, Try.ntmps32
    go_wp2_with (first | ((with_reducible refine gate_callee (f := 41) rfl ?_); refine goesL_ (some 9) rfl rfl Try.func41 (by kernel_rfl) rfl #[.slice A0 l0.length c0] rfl (by (try simp only [List.map_toArray, List.map_cons, List.map_nil]); first | done | rfl | (simp only [List.length_drop, List.length_take]; rfl)) ?_; (with_reducible refine (fold_Check.calls k _ _ l0 t127 none _ ?side1 ?side2 A2.out).mono ?_); (case side1 => repeat (first | exact HR0.out | (with_reducible refine Kd.C_alloc ?_ _) | (with_reducible refine Kd.C_drewN ?_ _) | (with_reducible refine Kd.C_drew ?_))); (case side2 => exact HC0.out); rintro e w3 ⟨rfl, hb⟩; refine ⟨_, rfl, ?_⟩; have n0_ := Aside0.mk (below_step (by repeat (first | (with_reducible first | exact HB.out | apply below_alloc | apply pw_below_drewN | apply below_drew1) | exact HB.out)) hb); clear HB; have HB := n0_; clear n0_; (try clear hb); (try clear hb2); (try clear hk); (try clear hi); (try simp only [errW_none, errW_some])))
    go_loopg [2, 17] k (fun kq v2 v17 w' => ∃ (x2_1 : List (S64)) (x17_1 : Int), v17 = .int .i64 x17_1 ∧ Aside0 (clean_Spans.l0 kq l0 x2_1 (l0.length : Int) x17_1 = some (r1, r2)) ∧ Aside0 (kq ≤ k) ∧ Aside0 (Kd.R k64 64 w' w.heap.size (fun _ => True) v2 x2_1) ∧ Aside0 (Below w.heap.size w w'))
    case atStart => exact ⟨(([] : List (S64))), (0), (by first | rfl | (simp; done) | (simp [*]; done)), H', ⟨Nat.le_refl _⟩, ⟨by first | exact Kd.R_nil _ _ _ _ _ | exact Kd.N_nil _ _ _ _ _ | exact Kd.V_nil _ _ _ _ _ | exact Kd.Q_nil _ _ _ _ _ | exact Kd.S_nil _ _ _ _ _⟩, ⟨by repeat (first | (with_reducible first | exact HB.out | apply below_alloc | apply pw_below_drewN | apply below_drew1) | exact HB.out)⟩⟩
    case round =>
      clear H'
      try clear q1
      try clear p2
      try clear c3
      try clear q129
      obtain ⟨x2_1, x17_1, rfl, HA, HK1, HO_2, HB⟩ := hrel
      cases gk with
      | zero => exact absurd HA.out (by simp [clean_Spans.l0])
      | succ k1 =>
        have H := HA.out
        clear HA
        simp only [clean_Spans.l0] at H
        by_cases c4 : x17_1 < (l0.length : Int)
        · rw [if_pos c4] at H
          have c4b0 : decide (x17_1 < (l0.length : Int)) = true := decide_eq_true c4
          clear c4
          replace H := Option.bind_eq_some_iff.mp H
          obtain ⟨⟨t130, t131⟩, A50, H⟩ := H
          replace H : (if x2_1.length < 8796093022208 then (clean_Spans.l0 k1 l0 (x2_1 ++ [(⟨t130, t131⟩ : S64)]) (l0.length : Int) (wrap64 (x17_1 + 1))) else (none)) = some (r1, r2) := H
          have A5 := Aside0.mk A50
          clear A50
          by_cases c6 : x2_1.length < 8796093022208
          · rw [if_pos c6] at H
            have LMc6 := Aside0.mk c6
            clear c6
            obtain ⟨y132, hy132⟩ : ∃ y_ : List (S64), y_ = (x2_1 ++ [(⟨t130, t131⟩ : S64)]) := ⟨_, rfl⟩
            replace H : (clean_Spans.l0 k1 l0 y132 (l0.length : Int) (wrap64 (x17_1 + 1))) = some (r1, r2) := by first | (rw [hy132]; with_reducible exact H) | (have H2_ := (Option.bind_some _ _).symm.trans H; rw [hy132]; with_reducible exact H2_) | (have H2_ := (Option.bind_some _ _).symm.trans H; with_reducible exact H2_) | with_reducible exact H | (rw [hy132]; exact H) | exact H
            have Ny132 := Aside0.mk hy132
            clear hy132
            have H' := Aside0.mk H
            clear H
            go_wp2_with (first | ((with_reducible refine gate_callee (f := 51) rfl ?_); refine goesL_ (some 23) rfl rfl Try.func51 (by kernel_rfl) rfl #[.slice A0 l0.length c0, .int .i64 x17_1] rfl (by (try simp only [List.map_toArray, List.map_cons, List.map_nil]); first | done | rfl | (simp only [List.length_drop, List.length_take]; rfl)) ?_; (with_reducible refine (clean_span.calls k1 _ _ l0 x17_1 t130 t131 _ ?side1 ?side2 A5.out).mono ?_); (case side1 => repeat (first | exact (Kd.C_below HR0.out HB.out) | (with_reducible refine Kd.C_alloc ?_ _) | (with_reducible refine Kd.C_drewN ?_ _) | (with_reducible refine Kd.C_drew ?_))); (case side2 => exact HC0.out); rintro e w7 ⟨rfl, hb⟩; refine ⟨_, rfl, ?_⟩; have n0_ := Aside0.mk (Kd.R_below (by (with_reducible repeat (first | apply Kd.R_alloc | apply Kd.R_drewN | apply Kd.R_drew)); exact HO_2.out) hb); have n1_ := Aside0.mk (below_step (by repeat (first | (with_reducible first | exact HB.out | apply below_alloc | apply pw_below_drewN | apply below_drew1) | exact HB.out)) hb); clear HO_2; clear HB; have HO_2 := n0_; have HB := n1_; clear n0_ n1_; (try clear hb); (try clear hb2); (try clear hk); (try clear hi)) | ((with_reducible refine gate_builtin (b := .append) (xs := #[.tmp 20, .tmp 24]) rfl ?_); at_builtin; refine Kd.R_append k64 (w0 := w) w.heap.size rfl (.tmp 20) (.tmp 24) 56 64 (.agg #[(.int .i64 0), (.int .i64 0)]) 16 rfl Try.underlying56 info64 rfl (by decide) (by omega) u2 x2_1 (⟨t130, t131⟩ : S64) [.int .i64 t130, .int .i64 t131] (fun _ => True) (fun _ => False) rfl rfl ?aP (fun _ hk => hk.elim) ?aF ?aO ?aB ?aS ?aL ?_; (case aP => exact k64_mkM _ _ _ (⟨t130, t131⟩ : S64)); (case aB => exact (by repeat (first | (with_reducible first | exact HB.out | apply below_alloc | apply pw_below_drewN | apply below_drew1) | exact HB.out))); (case aF => exact (fun _ _ => trivial)); (case aO => exact (by (with_reducible repeat (first | apply Kd.R_alloc | apply Kd.R_drewN | apply Kd.R_drew)); exact HO_2.out)); (case aS => exact (below_size (by repeat (first | (with_reducible first | exact HB.out | apply below_alloc | apply pw_below_drewN | apply below_drew1) | exact HB.out)))); (case aL => have := LMc6.out; omega); intro v133 w8 ho hb hg hat; rw [← Ny132.out] at ho; have n0_ := Aside0.mk (hb); have n1_ := Aside0.mk (ho); clear HB; clear HO_2; have HB := n0_; have HO134 := n1_; clear n0_ n1_; clear ho hb hg hat))
            go_roundg k1
            case measure => have := HK1.out; omega
            case rel => exact ⟨(y132), (wrap64 (x17_1 + 1)), (by first | rfl | (simp; done) | (simp [*]; done)), H', ⟨by have := HK1.out; omega⟩, ⟨by (with_reducible repeat (first | apply Kd.R_alloc | apply Kd.R_drewN | apply Kd.R_drew)); exact HO134.out⟩, ⟨by repeat (first | (with_reducible first | exact HB.out | apply below_alloc | apply pw_below_drewN | apply below_drew1) | exact HB.out)⟩⟩
          · rw [if_neg c6] at H
            exact absurd H (by simp)
        · rw [if_neg c4] at H
          have c4b0 : decide (x17_1 < (l0.length : Int)) = false := decide_eq_false c4
          clear c4
          simp only [Option.some.injEq, Prod.mk.injEq] at H
          obtain ⟨rfl, rfl⟩ := H
          go_wp2
          go_ret2
          exact ⟨_, by first | rfl | (simp [errW_none, errW_some] <;> rfl) | (simp [*, errW_none, errW_some] <;> rfl), by (with_reducible repeat (first | apply Kd.R_alloc | apply Kd.R_drewN | apply Kd.R_drew)); exact HO_2.out, by repeat (first | (with_reducible first | exact HB.out | apply below_alloc | apply pw_below_drewN | apply below_drew1) | exact HB.out)⟩
  · have H1 : (some (([] : List (S64)), some q129)) = some (r1, r2) := by rw [if_neg (show ¬ (some q129).isNone = true by simp)] at H; exact H
    clear H
    have H := H1
    clear H1
    try simp only [errW_none, errW_some]
    simp only [Option.some.injEq, Prod.mk.injEq] at H
    obtain ⟨rfl, rfl⟩ := H
    go_enter Try.func32, Try.ntmps32
    go_wp2_with (first | ((with_reducible refine gate_callee (f := 41) rfl ?_); refine goesL_ (some 9) rfl rfl Try.func41 (by kernel_rfl) rfl #[.slice A0 l0.length c0] rfl (by (try simp only [List.map_toArray, List.map_cons, List.map_nil]); first | done | rfl | (simp only [List.length_drop, List.length_take]; rfl)) ?_; (with_reducible refine (fold_Check.calls k _ _ l0 t127 (some q129) _ ?side1 ?side2 A2.out).mono ?_); (case side1 => repeat (first | exact HR0.out | (with_reducible refine Kd.C_alloc ?_ _) | (with_reducible refine Kd.C_drewN ?_ _) | (with_reducible refine Kd.C_drew ?_))); (case side2 => exact HC0.out); rintro e w9 ⟨rfl, hb⟩; refine ⟨_, rfl, ?_⟩; have n0_ := Aside0.mk (below_step (by repeat (first | (with_reducible first | exact HB.out | apply below_alloc | apply pw_below_drewN | apply below_drew1) | exact HB.out)) hb); clear HB; have HB := n0_; clear n0_; (try clear hb); (try clear hb2); (try clear hk); (try clear hi); (try simp only [errW_none, errW_some])))
    go_ret2
    exact ⟨_, by first | rfl | (simp [errW_none, errW_some] <;> rfl) | (simp [*, errW_none, errW_some] <;> rfl), by first | exact Kd.R_nil _ _ _ _ _ | exact Kd.N_nil _ _ _ _ _ | exact Kd.V_nil _ _ _ _ _ | exact Kd.Q_nil _ _ _ _ _ | exact Kd.S_nil _ _ _ _ _, by repeat (first | (with_reducible first | exact HB.out | apply below_alloc | apply pw_below_drewN | apply below_drew1) | exact HB.out)⟩

/-! ### life_Lives: function 49, given -/
def life_Lives.f (a0_0 : Int) (a0_1 : Int) (l1 : List Int) : Option (Bool) := some (Go.Proofs.Ytacdocchcfbgcaa.HLives.livesB a0_0 a0_1 l1)
theorem life_Lives.calls (a0_0 : Int) (a0_1 : Int) (A1 : Option Addr) (c1 : Nat) (l1 : List Int) (r : Bool) (w : World) (hr1 : Kd.C (Kd.int .i64) w A1 l1.length l1) (hc1 : l1.length ≤ c1) (h : life_Lives.f a0_0 a0_1 l1 = some r) :
    Calls Try.prog 49 #[.agg #[.int .i64 a0_0, .int .i64 a0_1], .slice A1 l1.length c1] w fun e w' => e = .returned (.bool r) ∧ Below w.heap.size w w' := by
  obtain rfl := Option.some.inj h
  exact Go.Proofs.Ytacdocchcfbgcaa.HLives.lives_any a0_0 a0_1 A1 c1 l1 w hr1 (Kd.C_max hr1)

/-! ### clean_Needed: function 28 -/
def clean_Needed.l0 : Nat → List Int → List Int → List (S64) → Int → Int → Option (List Int × Option Int)
  | 0, _, _, _, _, _ => none
  | k + 1, x1, x4, x17, x18, x19 => if x19 < x18 then (if 0 ≤ x19 then (if x19 < (x17.length : Int) then ((life_Lives.f ((rd_T64 x17 x19).f0) ((rd_T64 x17 x19).f1) x1).bind fun t142 => (if t142 = true then (if x4.length < 17592186044416 then (clean_Needed.l0 k x1 (x4 ++ [x19]) x17 x18 (wrap64 (x19 + 1))) else (none)) else (clean_Needed.l0 k x1 x4 x17 x18 (wrap64 (x19 + 1))))) else (none)) else (none)) else (some (x4, none))
def clean_Needed.f (k : Nat) (l0 : List (S50)) (l1 : List Int) : Option (List Int × Option Int) := (clean_Spans.f k l0).bind fun bt135 => (if bt135.2.isNone = true then (clean_Needed.l0 k l1 ([] : List Int) bt135.1 (bt135.1.length : Int) 0) else (some (([] : List Int), some (bt135.2.getD 0))))
theorem clean_Needed.mono_l : ∀ k, (∀ y0 y1 y2 y3 y4, LeO (clean_Needed.l0 k y0 y1 y2 y3 y4) (clean_Needed.l0 (k + 1) y0 y1 y2 y3 y4))
  | 0 => fun _ _ _ _ _ r h => by simp [clean_Needed.l0] at h
  | k + 1 => by
    have ih0 := clean_Needed.mono_l k
    · intro y0 y1 y2 y3 y4
      unfold clean_Needed.l0
      repeat' first
      | (with_reducible exact ih0 _ _ _ _ _)
      | (with_reducible exact clean_Spans.mono _ _)
      | (with_reducible exact LeO.refl _)
      | (with_reducible exact LeO.none _)
      | (with_reducible refine LeO.ite ?_ ?_)
      | (with_reducible refine LeO.bind ?_ (fun _ => ?_))
      | exact ih0 _ _ _ _ _
      | exact clean_Spans.mono _ _
      | exact LeO.none _
      | refine LeO.ite ?_ ?_
      | refine LeO.bind ?_ (fun _ => ?_)
theorem clean_Needed.mono : ∀ a0 a1 k, LeO (clean_Needed.f k a0 a1) (clean_Needed.f (k + 1) a0 a1) := by
  intro a0 a1 k
  have ih0 := clean_Needed.mono_l k
  unfold clean_Needed.f
  repeat' first
      | (with_reducible exact ih0 _ _ _ _ _)
      | (with_reducible exact clean_Spans.mono _ _)
      | (with_reducible exact LeO.refl _)
      | (with_reducible exact LeO.none _)
      | (with_reducible refine LeO.ite ?_ ?_)
      | (with_reducible refine LeO.bind ?_ (fun _ => ?_))
      | exact ih0 _ _ _ _ _
      | exact clean_Spans.mono _ _
      | exact LeO.none _
      | refine LeO.ite ?_ ?_
      | refine LeO.bind ?_ (fun _ => ?_)
set_option maxHeartbeats 8000000 in
set_option maxRecDepth 100000 in
theorem clean_Needed.calls (k : Nat) (A0 : Option Addr) (c0 : Nat) (l0 : List (S50)) (A1 : Option Addr) (c1 : Nat) (l1 : List Int) (r1 : List Int) (r2 : Option Int) (w : World) (hr0 : Kd.C k50 w A0 l0.length l0) (hc0 : l0.length ≤ c0) (hr1 : Kd.C (Kd.int .i64) w A1 l1.length l1) (hc1 : l1.length ≤ c1) (h : clean_Needed.f k l0 l1 = some (r1, r2)) :
    Calls Try.prog 28 #[.slice A0 l0.length c0, .slice A1 l1.length c1] w fun e w' => ∃ v0_ : Value, e = .returned (.tuple #[v0_, errW r2]) ∧ Kd.R (Kd.int .i64) 3 w' w.heap.size (fun _ => True) v0_ r1 ∧ Below w.heap.size w w' := by
  have hu64 := Try.underlying64
  have hu44 := Try.underlying44
  have hu90 := Try.underlying90
  have HR0 := Aside0.mk hr0
  have HC0 := Aside0.mk hc0
  clear hr0 hc0
  have HR1 := Aside0.mk hr1
  have HC1 := Aside0.mk hc1
  clear hr1 hc1
  have HB := Aside0.mk (Below.refl w.heap.size w)
  have H : ((clean_Spans.f k l0).bind fun bt135 => (if bt135.2.isNone = true then (clean_Needed.l0 k l1 ([] : List Int) bt135.1 (bt135.1.length : Int) 0) else (some (([] : List Int), some (bt135.2.getD 0))))) = some (r1, r2) := h
  clear h
  replace H := Option.bind_eq_some_iff.mp H
  obtain ⟨⟨t135, t136⟩, A30, H⟩ := H
  replace H : (if t136.isNone = true then (clean_Needed.l0 k l1 ([] : List Int) t135 (t135.length : Int) 0) else (some (([] : List Int), some (t136.getD 0)))) = some (r1, r2) := H
  have A3 := Aside0.mk A30
  clear A30
  rcases t136 with _ | q139
  · have H1 : (clean_Needed.l0 k l1 ([] : List Int) t135 (t135.length : Int) 0) = some (r1, r2) := by rw [if_pos (show (none : Option Int).isNone = true by rfl)] at H; exact H
    clear H
    have H := H1
    clear H1
    try simp only [errW_none, errW_some]
    have H' := Aside0.mk H
    clear H
    go_enter Try.func28, Try.ntmps28
    go_wp2_with (first | ((with_reducible refine gate_callee (f := 32) rfl ?_); refine goesL_ (some 11) rfl rfl Try.func32 (by kernel_rfl) rfl #[.slice A0 l0.length c0] rfl (by (try simp only [List.map_toArray, List.map_cons, List.map_nil]); first | done | rfl | (simp only [List.length_drop, List.length_take]; rfl)) ?_; (with_reducible refine (clean_Spans.calls k _ _ l0 t135 none _ ?side1 ?side2 A3.out).mono ?_); (case side1 => repeat (first | exact HR0.out | (with_reducible refine Kd.C_alloc ?_ _) | (with_reducible refine Kd.C_drewN ?_ _) | (with_reducible refine Kd.C_drew ?_))); (case side2 => exact HC0.out); rintro e w4 ⟨v137, rfl, ho0, hb⟩; refine ⟨_, rfl, ?_⟩; have n0_ := Aside0.mk (Kd.R_lower ho0 (below_size (by repeat (first | (with_reducible first | exact HB.out | apply below_alloc | apply pw_below_drewN | apply below_drew1) | exact HB.out)))); have n1_ := Aside0.mk (below_step (by repeat (first | (with_reducible first | exact HB.out | apply below_alloc | apply pw_below_drewN | apply below_drew1) | exact HB.out)) hb); clear HB; have HO138 := n0_; have HB := n1_; clear n0_ n1_; (try clear hb); (try clear hb2); (try clear hk); (try clear hi); (try clear ho0); (try simp only [errW_none, errW_some]); obtain ⟨Ao5, co5, eo5⟩ := Kd.R_slice HO138.out; subst eo5))
    go_loopg [4, 19] k (fun kq v4 v19 w' => ∃ (x4_1 : List Int) (x19_1 : Int), v19 = .int .i64 x19_1 ∧ Aside0 (clean_Needed.l0 kq l1 x4_1 t135 (t135.length : Int) x19_1 = some (r1, r2)) ∧ Aside0 (kq ≤ k) ∧ Aside0 (Kd.R (Kd.int .i64) 3 w' w.heap.size (fun _ => True) v4 x4_1) ∧ Aside0 (Kd.R k64 64 w' w.heap.size (fun _ => True) (.slice Ao5 t135.length co5) t135) ∧ Aside0 (Below w.heap.size w w'))
    case atStart => exact ⟨(([] : List Int)), (0), (by first | rfl | (simp; done) | (simp [*]; done)), H', ⟨Nat.le_refl _⟩, ⟨by first | exact Kd.R_nil _ _ _ _ _ | exact Kd.N_nil _ _ _ _ _ | exact Kd.V_nil _ _ _ _ _ | exact Kd.Q_nil _ _ _ _ _ | exact Kd.S_nil _ _ _ _ _⟩, ⟨by (with_reducible repeat (first | apply Kd.R_alloc | apply Kd.R_drewN | apply Kd.R_drew)); exact HO138.out⟩, ⟨by repeat (first | (with_reducible first | exact HB.out | apply below_alloc | apply pw_below_drewN | apply below_drew1) | exact HB.out)⟩⟩
    case round =>
      clear H'
      try clear c1
      try clear q1
      try clear c2
      try clear p2
      try clear c3
      try clear q139
      obtain ⟨x4_1, x19_1, rfl, HA, HK1, HO_4, HO_17, HB⟩ := hrel
      cases gk with
      | zero => exact absurd HA.out (by simp [clean_Needed.l0])
      | succ k1 =>
        have H := HA.out
        clear HA
        simp only [clean_Needed.l0] at H
        by_cases c6 : x19_1 < (t135.length : Int)
        · rw [if_pos c6] at H
          have c6b0 : decide (x19_1 < (t135.length : Int)) = true := decide_eq_true c6
          clear c6
          by_cases c7 : 0 ≤ x19_1
          · rw [if_pos c7] at H
            have c7b0 : decide (0 ≤ x19_1) = true := decide_eq_true c7
            clear c7
            by_cases c8 : x19_1 < (t135.length : Int)
            · rw [if_pos c8] at H
              have c8b0 : decide (x19_1 < (t135.length : Int)) = true := decide_eq_true c8
              clear c8
              replace H := Option.bind_eq_some_iff.mp H
              obtain ⟨t142, A90, H⟩ := H
              replace H : (if t142 = true then (if x4_1.length < 17592186044416 then (clean_Needed.l0 k1 l1 (x4_1 ++ [x19_1]) t135 (t135.length : Int) (wrap64 (x19_1 + 1))) else (none)) else (clean_Needed.l0 k1 l1 x4_1 t135 (t135.length : Int) (wrap64 (x19_1 + 1)))) = some (r1, r2) := H
              have A9 := Aside0.mk A90
              clear A90
              by_cases c10 : t142 = true
              · subst c10
                have H1 : (if x4_1.length < 17592186044416 then (clean_Needed.l0 k1 l1 (x4_1 ++ [x19_1]) t135 (t135.length : Int) (wrap64 (x19_1 + 1))) else (none)) = some (r1, r2) := by rw [if_pos rfl] at H; exact H
                clear H
                have H := H1
                clear H1
                by_cases c11 : x4_1.length < 17592186044416
                · rw [if_pos c11] at H
                  have LMc11 := Aside0.mk c11
                  clear c11
                  obtain ⟨y143, hy143⟩ : ∃ y_ : List Int, y_ = (x4_1 ++ [x19_1]) := ⟨_, rfl⟩
                  replace H : (clean_Needed.l0 k1 l1 y143 t135 (t135.length : Int) (wrap64 (x19_1 + 1))) = some (r1, r2) := by first | (rw [hy143]; with_reducible exact H) | (have H2_ := (Option.bind_some _ _).symm.trans H; rw [hy143]; with_reducible exact H2_) | (have H2_ := (Option.bind_some _ _).symm.trans H; with_reducible exact H2_) | with_reducible exact H | (rw [hy143]; exact H) | exact H
                  have Ny143 := Aside0.mk hy143
                  clear hy143
                  have H' := Aside0.mk H
                  clear H
                  have p140 : 0 ≤ (x19_1 : Int) := of_decide_eq_true (by first | (with_reducible assumption) | assumption)
                  have q140 : x19_1 < (t135.length : Int) := of_decide_eq_true (by first | (with_reducible assumption) | assumption)
                  obtain ⟨ad140, e140, hx140_0, hx140_1⟩ := at_T64 (Kd.R_reads' HO_17.out).2.2 x19_1 p140 q140
                  cases e140
                  replace p140 := eq_true p140
                  replace q140 := eq_true q140
                  go_wp2_with (first | ((with_reducible refine gate_dst (N := 8) rfl ?_); refine box_event ?hg (N := 8) ?hd (cs := #[.int .i64 0, .int .i64 0]) (t := 64) ?hr ?_; (case hd => rfl); (case hg => rfl); (case hr => first | (go_simp; done) | (go_simp; rfl)); intro gb141 hg w12 hbox hb; have n0_ := Aside0.mk (Kd.R_below (by (with_reducible repeat (first | apply Kd.R_alloc | apply Kd.R_drewN | apply Kd.R_drew)); exact HO_4.out) hb); have n1_ := Aside0.mk (Kd.R_below (Kd.R_elderB (by (with_reducible repeat (first | apply Kd.R_alloc | apply Kd.R_drewN | apply Kd.R_drew)); exact HO_17.out) gb141 (Nat.le_of_eq hg.symm)) hb); have n2_ := Aside0.mk (below_step (by repeat (first | (with_reducible first | exact HB.out | apply below_alloc | apply pw_below_drewN | apply below_drew1) | exact HB.out)) hb); have n3_ := Aside0.mk (hbox); have n4_ := Aside0.mk ((by rw [hg]; exact (below_size (by repeat (first | (with_reducible first | exact HB.out | apply below_alloc | apply pw_below_drewN | apply below_drew1) | exact HB.out))) : w.heap.size ≤ gb141)); have n5_ := Aside0.mk ((by rw [hg]; exact (below_size (by repeat (first | (with_reducible first | exact HB.out | apply below_alloc | apply pw_below_drewN | apply below_drew1) | exact HB.out))) : w.heap.size ≤ gb141)); clear HO_4; clear HO_17; clear HB; have HO_4 := n0_; have HO_17 := n1_; have HB := n2_; have BK141 := n3_; have GW141 := n4_; have GE141 := n5_; clear n0_ n1_ n2_ n3_ n4_ n5_; clear hb hbox hg; have hcz13_0 : w12.cell? ⟨gb141, 0, none⟩ = some (.int .i64 0) := (blk_cell BK141.out 0).trans rfl; have hcz13_1 : w12.cell? ⟨gb141, 1, none⟩ = some (.int .i64 0) := (blk_cell BK141.out 1).trans rfl; have hfz13_0 := blk_frozen BK141.out 0; have hfz13_1 := blk_frozen BK141.out 1) | ((with_reducible refine gate_callee (f := 49) rfl ?_); refine goesL_ (some 26) rfl rfl Try.func49 (by kernel_rfl) rfl #[.agg #[.int .i64 ((rd_T64 t135 x19_1).f0), .int .i64 ((rd_T64 t135 x19_1).f1)], .slice A1 l1.length c1] rfl (by (try simp only [List.map_toArray, List.map_cons, List.map_nil]); first | done | rfl | (simp only [List.length_drop, List.length_take]; rfl)) ?_; (with_reducible refine (life_Lives.calls ((rd_T64 t135 x19_1).f0) ((rd_T64 t135 x19_1).f1) _ _ l1 true _ ?side1 ?side2 A9.out).mono ?_); (case side1 => exact Kd.C_below HR1.out (by repeat (first | (with_reducible first | exact HB.out | apply below_alloc | apply pw_below_drewN | apply below_drew1 | refine below_set ?_ GE141.out) | exact HB.out))); (case side2 => exact HC1.out); rintro e w14 ⟨rfl, hb⟩; refine ⟨_, rfl, ?_⟩; have n0_ := Aside0.mk (Kd.R_below (by (with_reducible repeat (first | apply Kd.R_alloc | apply Kd.R_drewN | apply Kd.R_drew)); exact (Kd.R_mono (Kd.R_far (p := ⟨gb141, 1, none⟩) (Kd.R_far (p := ⟨gb141, 0, none⟩) (Kd.R_types HO_4.out BK141.out (by decide)) (fun _ hk => hk.2) (.int .i64 ((rd_T64 t135 x19_1).f0))) (fun _ hk => hk.2) (.int .i64 ((rd_T64 t135 x19_1).f1))) (fun _ h_ => h_.1))) hb); have n1_ := Aside0.mk (Kd.R_below (by (with_reducible repeat (first | apply Kd.R_alloc | apply Kd.R_drewN | apply Kd.R_drew)); exact (Kd.R_mono (Kd.R_far (p := ⟨gb141, 1, none⟩) (Kd.R_far (p := ⟨gb141, 0, none⟩) (Kd.R_mono HO_17.out (fun k_ hk => (⟨hk, hk.2⟩ : _ ∧ k_ ≠ gb141))) (fun _ hk => hk.2) (.int .i64 ((rd_T64 t135 x19_1).f0))) (fun _ hk => hk.2) (.int .i64 ((rd_T64 t135 x19_1).f1))) (fun _ h_ => h_.1))) hb); have n2_ := Aside0.mk (blk_below (g := gb141) (o := .cells #[.int .i64 ((rd_T64 t135 x19_1).f0), .int .i64 ((rd_T64 t135 x19_1).f1)] 64 (0, 0)) (by (with_reducible repeat (first | refine blk_drewN ?_ _ | refine blk_drew ?_ | refine blk_alloc ?_ _)); refine blk_put (cs := #[.int .i64 ((rd_T64 t135 x19_1).f0), .int .i64 0]) ?_ 1 _ rfl; (with_reducible repeat (first | refine blk_drewN ?_ _ | refine blk_drew ?_ | refine blk_alloc ?_ _)); refine blk_put (cs := #[.int .i64 0, .int .i64 0]) ?_ 0 _ rfl; (with_reducible repeat (first | refine blk_drewN ?_ _ | refine blk_drew ?_ | refine blk_alloc ?_ _)); exact BK141.out) hb); have n3_ := Aside0.mk (below_step (by repeat (first | (with_reducible first | exact HB.out | apply below_alloc | apply pw_below_drewN | apply below_drew1 | refine below_set ?_ GE141.out) | exact HB.out)) hb); clear HO_4; clear HO_17; clear BK141; clear HB; have HO_4 := n0_; have HO_17 := n1_; have BK141 := n2_; have HB := n3_; clear n0_ n1_ n2_ n3_; (try clear hb); (try clear hb2); (try clear hk); (try clear hi)) | ((with_reducible refine gate_builtin (b := .append) (xs := #[.tmp 27, .tmp 29]) rfl ?_); at_builtin; refine Kd.R_append (Kd.int .i64) (w0 := w) w.heap.size rfl (.tmp 27) (.tmp 29) 25 3 (.int .i64 0) 8 rfl Try.underlying25 info3 rfl (by decide) (by omega) u4 x4_1 x19_1 [.int .i64 x19_1] (fun _ => True) (fun _ => False) rfl rfl ?aP (fun _ hk => hk.elim) ?aF ?aO ?aB ?aS ?aL ?_; (case aP => exact rfl); (case aB => exact (by repeat (first | (with_reducible first | exact HB.out | apply below_alloc | apply pw_below_drewN | apply below_drew1 | refine below_set ?_ GE141.out) | exact HB.out))); (case aF => exact (fun _ _ => trivial)); (case aO => exact (by (with_reducible repeat (first | apply Kd.R_alloc | apply Kd.R_drewN | apply Kd.R_drew)); exact HO_4.out)); (case aS => exact (below_size (by repeat (first | (with_reducible first | exact HB.out | apply below_alloc | apply pw_below_drewN | apply below_drew1 | refine below_set ?_ GE141.out) | exact HB.out)))); (case aL => have := LMc11.out; omega); intro v144 w15 ho hb hg hat; rw [← Ny143.out] at ho; have n0_ := Aside0.mk (Kd.R_over' (by (with_reducible repeat (first | apply Kd.R_alloc | apply Kd.R_drewN | apply Kd.R_drew)); exact HO_17.out) (Kd.R_typed (by (with_reducible repeat (first | apply Kd.R_alloc | apply Kd.R_drewN | apply Kd.R_drew)); exact HO_4.out)) (by decide) hg); have n1_ := Aside0.mk (blk_grown (g := gb141) (o := .cells #[.int .i64 ((rd_T64 t135 x19_1).f0), .int .i64 ((rd_T64 t135 x19_1).f1)] 64 (0, 0)) (by (with_reducible repeat (first | refine blk_drewN ?_ _ | refine blk_drew ?_ | refine blk_alloc ?_ _)); exact BK141.out) hg (Kd.R_ne HO_4.out BK141.out (by decide))); have n2_ := Aside0.mk (hb); have n3_ := Aside0.mk (ho); clear HO_17; clear BK141; clear HB; clear HO_4; have HO_17 := n0_; have BK141 := n1_; have HB := n2_; have HO145 := n3_; clear n0_ n1_ n2_ n3_; clear ho hb hg hat))
                  go_roundg k1
                  case measure => have := HK1.out; omega
                  case rel => exact ⟨(y143), (wrap64 (x19_1 + 1)), (by first | rfl | (simp; done) | (simp [*]; done)), H', ⟨by have := HK1.out; omega⟩, ⟨by (with_reducible repeat (first | apply Kd.R_alloc | apply Kd.R_drewN | apply Kd.R_drew)); exact HO145.out⟩, ⟨by (with_reducible repeat (first | apply Kd.R_alloc | apply Kd.R_drewN | apply Kd.R_drew)); exact Kd.R_mono HO_17.out (fun _ hk => trivial)⟩, ⟨by repeat (first | (with_reducible first | exact HB.out | apply below_alloc | apply pw_below_drewN | apply below_drew1 | refine below_set ?_ GE141.out) | exact HB.out)⟩⟩
                · rw [if_neg c11] at H
                  exact absurd H (by simp)
              · replace c10 := Bool.eq_false_iff.mpr c10
                subst c10
                have H1 : (clean_Needed.l0 k1 l1 x4_1 t135 (t135.length : Int) (wrap64 (x19_1 + 1))) = some (r1, r2) := by rw [if_neg (show ¬ (false = true) by decide)] at H; exact H
                clear H
                have H := H1
                clear H1
                have H' := Aside0.mk H
                clear H
                have p140 : 0 ≤ (x19_1 : Int) := of_decide_eq_true (by first | (with_reducible assumption) | assumption)
                have q140 : x19_1 < (t135.length : Int) := of_decide_eq_true (by first | (with_reducible assumption) | assumption)
                obtain ⟨ad140, e140, hx140_0, hx140_1⟩ := at_T64 (Kd.R_reads' HO_17.out).2.2 x19_1 p140 q140
                cases e140
                replace p140 := eq_true p140
                replace q140 := eq_true q140
                go_wp2_with (first | ((with_reducible refine gate_dst (N := 8) rfl ?_); refine box_event ?hg (N := 8) ?hd (cs := #[.int .i64 0, .int .i64 0]) (t := 64) ?hr ?_; (case hd => rfl); (case hg => rfl); (case hr => first | (go_simp; done) | (go_simp; rfl)); intro gb141 hg w16 hbox hb; have n0_ := Aside0.mk (Kd.R_below (by (with_reducible repeat (first | apply Kd.R_alloc | apply Kd.R_drewN | apply Kd.R_drew)); exact HO_4.out) hb); have n1_ := Aside0.mk (Kd.R_below (Kd.R_elderB (by (with_reducible repeat (first | apply Kd.R_alloc | apply Kd.R_drewN | apply Kd.R_drew)); exact HO_17.out) gb141 (Nat.le_of_eq hg.symm)) hb); have n2_ := Aside0.mk (below_step (by repeat (first | (with_reducible first | exact HB.out | apply below_alloc | apply pw_below_drewN | apply below_drew1) | exact HB.out)) hb); have n3_ := Aside0.mk (hbox); have n4_ := Aside0.mk ((by rw [hg]; exact (below_size (by repeat (first | (with_reducible first | exact HB.out | apply below_alloc | apply pw_below_drewN | apply below_drew1) | exact HB.out))) : w.heap.size ≤ gb141)); have n5_ := Aside0.mk ((by rw [hg]; exact (below_size (by repeat (first | (with_reducible first | exact HB.out | apply below_alloc | apply pw_below_drewN | apply below_drew1) | exact HB.out))) : w.heap.size ≤ gb141)); clear HO_4; clear HO_17; clear HB; have HO_4 := n0_; have HO_17 := n1_; have HB := n2_; have BK141 := n3_; have GW141 := n4_; have GE141 := n5_; clear n0_ n1_ n2_ n3_ n4_ n5_; clear hb hbox hg; have hcz17_0 : w16.cell? ⟨gb141, 0, none⟩ = some (.int .i64 0) := (blk_cell BK141.out 0).trans rfl; have hcz17_1 : w16.cell? ⟨gb141, 1, none⟩ = some (.int .i64 0) := (blk_cell BK141.out 1).trans rfl; have hfz17_0 := blk_frozen BK141.out 0; have hfz17_1 := blk_frozen BK141.out 1) | ((with_reducible refine gate_callee (f := 49) rfl ?_); refine goesL_ (some 26) rfl rfl Try.func49 (by kernel_rfl) rfl #[.agg #[.int .i64 ((rd_T64 t135 x19_1).f0), .int .i64 ((rd_T64 t135 x19_1).f1)], .slice A1 l1.length c1] rfl (by (try simp only [List.map_toArray, List.map_cons, List.map_nil]); first | done | rfl | (simp only [List.length_drop, List.length_take]; rfl)) ?_; (with_reducible refine (life_Lives.calls ((rd_T64 t135 x19_1).f0) ((rd_T64 t135 x19_1).f1) _ _ l1 false _ ?side1 ?side2 A9.out).mono ?_); (case side1 => exact Kd.C_below HR1.out (by repeat (first | (with_reducible first | exact HB.out | apply below_alloc | apply pw_below_drewN | apply below_drew1 | refine below_set ?_ GE141.out) | exact HB.out))); (case side2 => exact HC1.out); rintro e w18 ⟨rfl, hb⟩; refine ⟨_, rfl, ?_⟩; have n0_ := Aside0.mk (Kd.R_below (by (with_reducible repeat (first | apply Kd.R_alloc | apply Kd.R_drewN | apply Kd.R_drew)); exact (Kd.R_mono (Kd.R_far (p := ⟨gb141, 1, none⟩) (Kd.R_far (p := ⟨gb141, 0, none⟩) (Kd.R_types HO_4.out BK141.out (by decide)) (fun _ hk => hk.2) (.int .i64 ((rd_T64 t135 x19_1).f0))) (fun _ hk => hk.2) (.int .i64 ((rd_T64 t135 x19_1).f1))) (fun _ h_ => h_.1))) hb); have n1_ := Aside0.mk (Kd.R_below (by (with_reducible repeat (first | apply Kd.R_alloc | apply Kd.R_drewN | apply Kd.R_drew)); exact (Kd.R_mono (Kd.R_far (p := ⟨gb141, 1, none⟩) (Kd.R_far (p := ⟨gb141, 0, none⟩) (Kd.R_mono HO_17.out (fun k_ hk => (⟨hk, hk.2⟩ : _ ∧ k_ ≠ gb141))) (fun _ hk => hk.2) (.int .i64 ((rd_T64 t135 x19_1).f0))) (fun _ hk => hk.2) (.int .i64 ((rd_T64 t135 x19_1).f1))) (fun _ h_ => h_.1))) hb); have n2_ := Aside0.mk (blk_below (g := gb141) (o := .cells #[.int .i64 ((rd_T64 t135 x19_1).f0), .int .i64 ((rd_T64 t135 x19_1).f1)] 64 (0, 0)) (by (with_reducible repeat (first | refine blk_drewN ?_ _ | refine blk_drew ?_ | refine blk_alloc ?_ _)); refine blk_put (cs := #[.int .i64 ((rd_T64 t135 x19_1).f0), .int .i64 0]) ?_ 1 _ rfl; (with_reducible repeat (first | refine blk_drewN ?_ _ | refine blk_drew ?_ | refine blk_alloc ?_ _)); refine blk_put (cs := #[.int .i64 0, .int .i64 0]) ?_ 0 _ rfl; (with_reducible repeat (first | refine blk_drewN ?_ _ | refine blk_drew ?_ | refine blk_alloc ?_ _)); exact BK141.out) hb); have n3_ := Aside0.mk (below_step (by repeat (first | (with_reducible first | exact HB.out | apply below_alloc | apply pw_below_drewN | apply below_drew1 | refine below_set ?_ GE141.out) | exact HB.out)) hb); clear HO_4; clear HO_17; clear BK141; clear HB; have HO_4 := n0_; have HO_17 := n1_; have BK141 := n2_; have HB := n3_; clear n0_ n1_ n2_ n3_; (try clear hb); (try clear hb2); (try clear hk); (try clear hi)))
                go_roundg k1
                case measure => have := HK1.out; omega
                case rel => exact ⟨(x4_1), (wrap64 (x19_1 + 1)), (by first | rfl | (simp; done) | (simp [*]; done)), H', ⟨by have := HK1.out; omega⟩, ⟨by (with_reducible repeat (first | apply Kd.R_alloc | apply Kd.R_drewN | apply Kd.R_drew)); exact HO_4.out⟩, ⟨by (with_reducible repeat (first | apply Kd.R_alloc | apply Kd.R_drewN | apply Kd.R_drew)); exact Kd.R_mono HO_17.out (fun _ hk => trivial)⟩, ⟨by repeat (first | (with_reducible first | exact HB.out | apply below_alloc | apply pw_below_drewN | apply below_drew1 | refine below_set ?_ GE141.out) | exact HB.out)⟩⟩
            · rw [if_neg c8] at H
              exact absurd H (by simp)
          · rw [if_neg c7] at H
            exact absurd H (by simp)
        · rw [if_neg c6] at H
          have c6b0 : decide (x19_1 < (t135.length : Int)) = false := decide_eq_false c6
          clear c6
          simp only [Option.some.injEq, Prod.mk.injEq] at H
          obtain ⟨rfl, rfl⟩ := H
          go_wp2
          go_ret2
          exact ⟨_, by first | rfl | (simp [errW_none, errW_some] <;> rfl) | (simp [*, errW_none, errW_some] <;> rfl), by (with_reducible repeat (first | apply Kd.R_alloc | apply Kd.R_drewN | apply Kd.R_drew)); exact HO_4.out, by repeat (first | (with_reducible first | exact HB.out | apply below_alloc | apply pw_below_drewN | apply below_drew1) | exact HB.out)⟩
  · have H1 : (some (([] : List Int), some q139)) = some (r1, r2) := by rw [if_neg (show ¬ (some q139).isNone = true by simp)] at H; exact H
    clear H
    have H := H1
    clear H1
    try simp only [errW_none, errW_some]
    simp only [Option.some.injEq, Prod.mk.injEq] at H
    obtain ⟨rfl, rfl⟩ := H
    go_enter Try.func28, Try.ntmps28
    go_wp2_with (first | ((with_reducible refine gate_callee (f := 32) rfl ?_); refine goesL_ (some 11) rfl rfl Try.func32 (by kernel_rfl) rfl #[.slice A0 l0.length c0] rfl (by (try simp only [List.map_toArray, List.map_cons, List.map_nil]); first | done | rfl | (simp only [List.length_drop, List.length_take]; rfl)) ?_; (with_reducible refine (clean_Spans.calls k _ _ l0 t135 (some q139) _ ?side1 ?side2 A3.out).mono ?_); (case side1 => repeat (first | exact HR0.out | (with_reducible refine Kd.C_alloc ?_ _) | (with_reducible refine Kd.C_drewN ?_ _) | (with_reducible refine Kd.C_drew ?_))); (case side2 => exact HC0.out); rintro e w19 ⟨v137, rfl, ho0, hb⟩; refine ⟨_, rfl, ?_⟩; have n0_ := Aside0.mk (Kd.R_lower ho0 (below_size (by repeat (first | (with_reducible first | exact HB.out | apply below_alloc | apply pw_below_drewN | apply below_drew1) | exact HB.out)))); have n1_ := Aside0.mk (below_step (by repeat (first | (with_reducible first | exact HB.out | apply below_alloc | apply pw_below_drewN | apply below_drew1) | exact HB.out)) hb); clear HB; have HO138 := n0_; have HB := n1_; clear n0_ n1_; (try clear hb); (try clear hb2); (try clear hk); (try clear hi); (try clear ho0); (try simp only [errW_none, errW_some])))
    go_ret2
    exact ⟨_, by first | rfl | (simp [errW_none, errW_some] <;> rfl) | (simp [*, errW_none, errW_some] <;> rfl), by first | exact Kd.R_nil _ _ _ _ _ | exact Kd.N_nil _ _ _ _ _ | exact Kd.V_nil _ _ _ _ _ | exact Kd.Q_nil _ _ _ _ _ | exact Kd.S_nil _ _ _ _ _, by repeat (first | (with_reducible first | exact HB.out | apply below_alloc | apply pw_below_drewN | apply below_drew1) | exact HB.out)⟩

/-! ### clean_Fast: function 29 -/
def clean_Fast.f (k : Nat) (l0 : List (S50)) (l1 : List Int) : Option (Int × Option Int) := (clean_Needed.f k l0 l1).bind fun bt146 => (if bt146.2.isNone = true then (if (bt146.1.length : Int) = 0 then (some ((l0.length : Int), none)) else (if 0 < (bt146.1.length : Int) then (some (rd bt146.1 0, none)) else (none))) else (some (0, some (bt146.2.getD 0))))
theorem clean_Fast.mono : ∀ a0 a1 k, LeO (clean_Fast.f k a0 a1) (clean_Fast.f (k + 1) a0 a1) := by
  intro a0 a1 k
  unfold clean_Fast.f
  repeat' first
      | (with_reducible exact clean_Needed.mono _ _ _)
      | (with_reducible exact LeO.refl _)
      | (with_reducible exact LeO.none _)
      | (with_reducible refine LeO.ite ?_ ?_)
      | (with_reducible refine LeO.bind ?_ (fun _ => ?_))
      | exact clean_Needed.mono _ _ _
      | exact LeO.none _
      | refine LeO.ite ?_ ?_
      | refine LeO.bind ?_ (fun _ => ?_)
set_option maxHeartbeats 8000000 in
set_option maxRecDepth 100000 in
theorem clean_Fast.calls (k : Nat) (A0 : Option Addr) (c0 : Nat) (l0 : List (S50)) (A1 : Option Addr) (c1 : Nat) (l1 : List Int) (r1 : Int) (r2 : Option Int) (w : World) (hr0 : Kd.C k50 w A0 l0.length l0) (hc0 : l0.length ≤ c0) (hr1 : Kd.C (Kd.int .i64) w A1 l1.length l1) (hc1 : l1.length ≤ c1) (h : clean_Fast.f k l0 l1 = some (r1, r2)) :
    Calls Try.prog 29 #[.slice A0 l0.length c0, .slice A1 l1.length c1] w fun e w' => e = .returned (.tuple #[.int .i64 r1, errW r2]) ∧ Below w.heap.size w w' := by
  have hu44 := Try.underlying44
  have hu90 := Try.underlying90
  have HR0 := Aside0.mk hr0
  have HC0 := Aside0.mk hc0
  clear hr0 hc0
  have HR1 := Aside0.mk hr1
  have HC1 := Aside0.mk hc1
  clear hr1 hc1
  have HB := Aside0.mk (Below.refl w.heap.size w)
  have H : ((clean_Needed.f k l0 l1).bind fun bt146 => (if bt146.2.isNone = true then (if (bt146.1.length : Int) = 0 then (some ((l0.length : Int), none)) else (if 0 < (bt146.1.length : Int) then (some (rd bt146.1 0, none)) else (none))) else (some (0, some (bt146.2.getD 0))))) = some (r1, r2) := h
  clear h
  replace H := Option.bind_eq_some_iff.mp H
  obtain ⟨⟨t146, t147⟩, A30, H⟩ := H
  replace H : (if t147.isNone = true then (if (t146.length : Int) = 0 then (some ((l0.length : Int), none)) else (if 0 < (t146.length : Int) then (some (rd t146 0, none)) else (none))) else (some (0, some (t147.getD 0)))) = some (r1, r2) := H
  have A3 := Aside0.mk A30
  clear A30
  rcases t147 with _ | q150
  · have H1 : (if (t146.length : Int) = 0 then (some ((l0.length : Int), none)) else (if 0 < (t146.length : Int) then (some (rd t146 0, none)) else (none))) = some (r1, r2) := by rw [if_pos (show (none : Option Int).isNone = true by rfl)] at H; exact H
    clear H
    have H := H1
    clear H1
    try simp only [errW_none, errW_some]
    by_cases c4 : (t146.length : Int) = 0
    · rw [if_pos c4] at H
      have c4b0 : ((t146.length : Int) == 0) = true := beq_iff_eq.mpr c4
      have c4b1 : ((t146.length : Int) != 0) = false := bne_eq_false_iff_eq.mpr c4
      clear c4
      simp only [Option.some.injEq, Prod.mk.injEq] at H
      obtain ⟨rfl, rfl⟩ := H
      go_enter Try.func29, Try.ntmps29
      go_wp2_with (first | ((with_reducible refine gate_callee (f := 28) rfl ?_); refine goesL_ (some 10) rfl rfl Try.func28 (by kernel_rfl) rfl #[.slice A0 l0.length c0, .slice A1 l1.length c1] rfl (by (try simp only [List.map_toArray, List.map_cons, List.map_nil]); first | done | rfl | (simp only [List.length_drop, List.length_take]; rfl)) ?_; (with_reducible refine (clean_Needed.calls k _ _ l0 _ _ l1 t146 none _ ?side1 ?side2 ?side3 ?side4 A3.out).mono ?_); (case side1 => repeat (first | exact HR0.out | (with_reducible refine Kd.C_alloc ?_ _) | (with_reducible refine Kd.C_drewN ?_ _) | (with_reducible refine Kd.C_drew ?_))); (case side2 => exact HC0.out); (case side3 => repeat (first | exact HR1.out | (with_reducible refine Kd.C_alloc ?_ _) | (with_reducible refine Kd.C_drewN ?_ _) | (with_reducible refine Kd.C_drew ?_))); (case side4 => exact HC1.out); rintro e w5 ⟨v148, rfl, ho0, hb⟩; refine ⟨_, rfl, ?_⟩; have n0_ := Aside0.mk (Kd.R_lower ho0 (below_size (by repeat (first | (with_reducible first | exact HB.out | apply below_alloc | apply pw_below_drewN | apply below_drew1) | exact HB.out)))); have n1_ := Aside0.mk (below_step (by repeat (first | (with_reducible first | exact HB.out | apply below_alloc | apply pw_below_drewN | apply below_drew1) | exact HB.out)) hb); clear HB; have HO149 := n0_; have HB := n1_; clear n0_ n1_; (try clear hb); (try clear hb2); (try clear hk); (try clear hi); (try clear ho0); (try simp only [errW_none, errW_some]); obtain ⟨Ao6, co6, eo6⟩ := Kd.R_slice HO149.out; subst eo6))
      go_ret2
      exact ⟨by first | rfl | (simp [errW_none, errW_some] <;> rfl) | (simp [*, errW_none, errW_some] <;> rfl), by repeat (first | (with_reducible first | exact HB.out | apply below_alloc | apply pw_below_drewN | apply below_drew1) | exact HB.out)⟩
    · rw [if_neg c4] at H
      have c4b0 : ((t146.length : Int) == 0) = false := beq_eq_false_iff_ne.mpr c4
      have c4b1 : ((t146.length : Int) != 0) = true := bne_iff_ne.mpr c4
      have c4b2 : ¬ (t146 = []) := fun h_ => c4 (by rw [h_]; rfl)
      by_cases c7 : 0 < (t146.length : Int)
      · rw [if_pos c7] at H
        have c7b0 : decide (0 < (t146.length : Int)) = true := decide_eq_true c7
        have c7b1 : decide (0 < t146.length) = true := decide_eq_true (by omega)
        clear c7
        simp only [Option.some.injEq, Prod.mk.injEq] at H
        obtain ⟨rfl, rfl⟩ := H
        go_enter Try.func29, Try.ntmps29
        go_wp2_with (first | ((with_reducible refine gate_callee (f := 28) rfl ?_); refine goesL_ (some 10) rfl rfl Try.func28 (by kernel_rfl) rfl #[.slice A0 l0.length c0, .slice A1 l1.length c1] rfl (by (try simp only [List.map_toArray, List.map_cons, List.map_nil]); first | done | rfl | (simp only [List.length_drop, List.length_take]; rfl)) ?_; (with_reducible refine (clean_Needed.calls k _ _ l0 _ _ l1 t146 none _ ?side1 ?side2 ?side3 ?side4 A3.out).mono ?_); (case side1 => repeat (first | exact HR0.out | (with_reducible refine Kd.C_alloc ?_ _) | (with_reducible refine Kd.C_drewN ?_ _) | (with_reducible refine Kd.C_drew ?_))); (case side2 => exact HC0.out); (case side3 => repeat (first | exact HR1.out | (with_reducible refine Kd.C_alloc ?_ _) | (with_reducible refine Kd.C_drewN ?_ _) | (with_reducible refine Kd.C_drew ?_))); (case side4 => exact HC1.out); rintro e w8 ⟨v148, rfl, ho0, hb⟩; refine ⟨_, rfl, ?_⟩; have n0_ := Aside0.mk (Kd.R_lower ho0 (below_size (by repeat (first | (with_reducible first | exact HB.out | apply below_alloc | apply pw_below_drewN | apply below_drew1) | exact HB.out)))); have n1_ := Aside0.mk (below_step (by repeat (first | (with_reducible first | exact HB.out | apply below_alloc | apply pw_below_drewN | apply below_drew1) | exact HB.out)) hb); clear HB; have HO149 := n0_; have HB := n1_; clear n0_ n1_; (try clear hb); (try clear hb2); (try clear hk); (try clear hi); (try clear ho0); (try simp only [errW_none, errW_some]); obtain ⟨Ao9, co9, eo9⟩ := Kd.R_slice HO149.out; subst eo9; have p151 : 0 ≤ (0 : Int) := (by omega); have q151 : 0 < (t146.length : Int) := of_decide_eq_true (by first | (with_reducible assumption) | assumption); obtain ⟨ad151, e151, hx151_0⟩ := Kd.at_int (Kd.R_reads' HO149.out).2.2 0 p151 q151; cases e151; have qi151 : (0 < t146.length) = True := eq_true (by omega); (try rw [show ((0 : Int)).toNat = 0 from rfl] at hx151_0); (try rw [Addr.add_zero'] at hx151_0); replace p151 := eq_true p151; replace q151 := eq_true q151))
        go_ret2
        exact ⟨by first | rfl | (simp [errW_none, errW_some] <;> rfl) | (simp [*, errW_none, errW_some] <;> rfl), by repeat (first | (with_reducible first | exact HB.out | apply below_alloc | apply pw_below_drewN | apply below_drew1) | exact HB.out)⟩
      · rw [if_neg c7] at H
        exact absurd H (by simp)
  · have H1 : (some (0, some q150)) = some (r1, r2) := by rw [if_neg (show ¬ (some q150).isNone = true by simp)] at H; exact H
    clear H
    have H := H1
    clear H1
    try simp only [errW_none, errW_some]
    simp only [Option.some.injEq, Prod.mk.injEq] at H
    obtain ⟨rfl, rfl⟩ := H
    go_enter Try.func29, Try.ntmps29
    go_wp2_with (first | ((with_reducible refine gate_callee (f := 28) rfl ?_); refine goesL_ (some 10) rfl rfl Try.func28 (by kernel_rfl) rfl #[.slice A0 l0.length c0, .slice A1 l1.length c1] rfl (by (try simp only [List.map_toArray, List.map_cons, List.map_nil]); first | done | rfl | (simp only [List.length_drop, List.length_take]; rfl)) ?_; (with_reducible refine (clean_Needed.calls k _ _ l0 _ _ l1 t146 (some q150) _ ?side1 ?side2 ?side3 ?side4 A3.out).mono ?_); (case side1 => repeat (first | exact HR0.out | (with_reducible refine Kd.C_alloc ?_ _) | (with_reducible refine Kd.C_drewN ?_ _) | (with_reducible refine Kd.C_drew ?_))); (case side2 => exact HC0.out); (case side3 => repeat (first | exact HR1.out | (with_reducible refine Kd.C_alloc ?_ _) | (with_reducible refine Kd.C_drewN ?_ _) | (with_reducible refine Kd.C_drew ?_))); (case side4 => exact HC1.out); rintro e w10 ⟨v148, rfl, ho0, hb⟩; refine ⟨_, rfl, ?_⟩; have n0_ := Aside0.mk (Kd.R_lower ho0 (below_size (by repeat (first | (with_reducible first | exact HB.out | apply below_alloc | apply pw_below_drewN | apply below_drew1) | exact HB.out)))); have n1_ := Aside0.mk (below_step (by repeat (first | (with_reducible first | exact HB.out | apply below_alloc | apply pw_below_drewN | apply below_drew1) | exact HB.out)) hb); clear HB; have HO149 := n0_; have HB := n1_; clear n0_ n1_; (try clear hb); (try clear hb2); (try clear hk); (try clear hi); (try clear ho0); (try simp only [errW_none, errW_some])))
    go_ret2
    exact ⟨by first | rfl | (simp [errW_none, errW_some] <;> rfl) | (simp [*, errW_none, errW_some] <;> rfl), by repeat (first | (with_reducible first | exact HB.out | apply below_alloc | apply pw_below_drewN | apply below_drew1) | exact HB.out)⟩

/-! ### dolmenalike_Code: function 33, given -/
def dolmenalike_Code.f (a0 : Option Int) : Option (Int) := some (Go.Proofs.Ytacdocchcfbgcaa.HErr.codeOf a0)
theorem dolmenalike_Code.calls (a0 : Option Int) (r : Int) (w : World) (h : dolmenalike_Code.f a0 = some r) :
    Calls Try.prog 33 #[errW a0] w fun e w' => e = .returned (.int .i64 r) ∧ Drawn0 w w' := by
  obtain rfl := Option.some.inj h
  have e : errW a0 = Go.Proofs.Ytacdocchcfbgcaa.HErr.errV a0 := by cases a0 <;> rfl
  rw [e]
  exact (Go.Proofs.Ytacdocchcfbgcaa.HErr.code_any a0 w).mono fun _ _ ⟨h1, h2⟩ => ⟨h1, by subst h2; exact Drawn0.refl _⟩

/-! ### dolmenlaw14_awake: function 25, given -/
def awL : List S50 := [⟨1, 1, 0, [97, 98], ⟨#[]⟩, 0⟩, ⟨1, 3, 0, [99, 100], ⟨#[]⟩, 0⟩]
theorem aw1 : clean_Spans.f 50 awL = some ([⟨1, 3⟩, ⟨3, 0⟩], none) := by kernel_rfl
theorem aw2 : clean_Fast.f 50 awL [5] = some (1, none) := by kernel_rfl
theorem aw3 : clean_Needed.f 50 [⟨0, 0, 0, [], ⟨#[]⟩, 0⟩] [] = some ([], some 1) := by kernel_rfl
def awW (w : World) : World := ((w.alloc (Obj.cells #[Value.int .u8 97, Value.int .u8 98] 5 (2, 3))).alloc (Obj.cells #[Value.int .u8 99, Value.int .u8 100] 5 (2, 3))).alloc
      (Obj.cells #[Value.int .i64 1, Value.int .i64 1, Value.int .i64 0, Value.slice (some ⟨w.heap.size, 0, none⟩) 2 2, Value.string ⟨#[]⟩, Value.int .i64 0, Value.int .i64 1, Value.int .i64 3, Value.int .i64 0, Value.slice (some ⟨w.heap.size + 1, 0, none⟩) 2 2, Value.string ⟨#[]⟩, Value.int .i64 0] 50)
theorem awC (w : World) : Kd.C k50 (awW w) (some ⟨w.heap.size + 1 + 1, 0, none⟩) awL.length awL := by
  have b0 : (awW w).heap[w.heap.size]? = some (Obj.cells #[Value.int .u8 97, Value.int .u8 98] 5 (2, 3)) := by
    unfold awW
    rw [Below.heap_alloc _ _ _ (by simp; omega), Below.heap_alloc _ _ _ (by simp)]
    exact heap_alloc_new w _
  have b1 : (awW w).heap[w.heap.size + 1]? = some (Obj.cells #[Value.int .u8 99, Value.int .u8 100] 5 (2, 3)) := by
    unfold awW
    rw [Below.heap_alloc _ _ _ (by simp)]
    have := heap_alloc_new (w.alloc (Obj.cells #[Value.int .u8 97, Value.int .u8 98] 5 (2, 3))) (Obj.cells #[Value.int .u8 99, Value.int .u8 100] 5 (2, 3))
    simpa using this
  refine Go.Proofs.Ytacdocchcfbgcaa.HBlk.C_of_block (t := 50) (fr := (0, 0)) (cs := #[Value.int .i64 1, Value.int .i64 1, Value.int .i64 0, Value.slice (some ⟨w.heap.size, 0, none⟩) 2 2, Value.string ⟨#[]⟩, Value.int .i64 0, Value.int .i64 1, Value.int .i64 3, Value.int .i64 0, Value.slice (some ⟨w.heap.size + 1, 0, none⟩) 2 2, Value.string ⟨#[]⟩, Value.int .i64 0]) ?_ ?_ (by decide)
  · have := heap_alloc_new ((w.alloc (Obj.cells #[Value.int .u8 97, Value.int .u8 98] 5 (2, 3))).alloc (Obj.cells #[Value.int .u8 99, Value.int .u8 100] 5 (2, 3))) (Obj.cells #[Value.int .i64 1, Value.int .i64 1, Value.int .i64 0, Value.slice (some ⟨w.heap.size, 0, none⟩) 2 2, Value.string ⟨#[]⟩, Value.int .i64 0, Value.int .i64 1, Value.int .i64 3, Value.int .i64 0, Value.slice (some ⟨w.heap.size + 1, 0, none⟩) 2 2, Value.string ⟨#[]⟩, Value.int .i64 0] 50)
    simpa [awW] using this
  · exact Reps.c6 (k50_mk _ (⟨1, 1, 0, [97, 98], ⟨#[]⟩, 0⟩ : S50) (by decide) (Go.Proofs.Ytacdocchcfbgcaa.HBlk.C_of_block b0 (Reps.one (show Kd.K (Kd.int .u8) _ 97 [.int .u8 97] from rfl) (Reps.one (show Kd.K (Kd.int .u8) _ 98 [.int .u8 98] from rfl) (Reps.none _ _))) (by decide)))
      (Reps.c6 (k50_mk _ (⟨1, 3, 0, [99, 100], ⟨#[]⟩, 0⟩ : S50) (by decide) (Go.Proofs.Ytacdocchcfbgcaa.HBlk.C_of_block b1 (Reps.one (show Kd.K (Kd.int .u8) _ 99 [.int .u8 99] from rfl) (Reps.one (show Kd.K (Kd.int .u8) _ 100 [.int .u8 100] from rfl) (Reps.none _ _))) (by decide))) (Reps.none _ _))
theorem awB (w : World) : Below w.heap.size w (awW w) := below_alloc (below_alloc (below_alloc (Below.refl _ _) _) _) _

set_option maxRecDepth 100000 in
theorem aw_any (w : World) : Calls Try.prog 25 #[] w fun e w' => e = .returned (.bool true) ∧ Below w.heap.size w w' := by
  have k1 := Go.Proofs.Ytacdocchcfbgcaa.HBlk.conv_const Try.underlying30 Try.underlying5 w #[.int .u8 97, .int .u8 98] 2 2 w.heap.size rfl
  have k2 := Go.Proofs.Ytacdocchcfbgcaa.HBlk.conv_const Try.underlying30 Try.underlying5 (w.alloc (.cells #[.int .u8 97, .int .u8 98] 5 (2, 3))) #[.int .u8 99, .int .u8 100] 2 2 (w.heap.size + 1) (by simp)
  have HC := Aside0.mk (awC w)
  have HB := Aside0.mk (awB w)
  go_enter Try.func25, Try.ntmps25
  go_wp2_with fail
  refine (clean_Spans.calls 50 (some ⟨w.heap.size + 1 + 1, 0, none⟩) 2 awL _ _ (awW w) HC.out (by decide) aw1).mono ?_
  rintro e w1 ⟨v0, rfl, hR, hb⟩
  have HB1 := Aside0.mk (below_then HB.out HB.out.size hb)
  have HC1 := Aside0.mk (Kd.C_below HC.out hb)
  have HR := Aside0.mk hR
  clear HB HC hb hR
  simp only [errW_none]
  have B2 := Aside0.mk (Below.alloc (Below.refl w1.heap.size w1) (Nat.le_refl _) (Obj.cells #[Value.int .i64 5] 3))
  have C2 : Aside0 (Kd.C (Kd.int .i64) (w1.alloc (Obj.cells #[Value.int .i64 5] 3)) (some ⟨w1.heap.size, 0, none⟩) [(5 : Int)].length [5]) := ⟨Go.Proofs.Ytacdocchcfbgcaa.HBlk.C_of_block (heap_alloc_new w1 _) (Reps.one (show Kd.K (Kd.int .i64) _ 5 [.int .i64 5] from rfl) (Reps.none _ _)) (by decide)⟩
  go_wp2_with fail
  refine (clean_Fast.calls 50 (some ⟨w.heap.size + 1 + 1, 0, none⟩) 2 awL (some ⟨w1.heap.size, 0, none⟩) 1 [5] _ _ _ (Kd.C_below HC1.out B2.out) (by decide) C2.out (by decide) aw2).mono ?_
  rintro e w2 ⟨rfl, hb⟩
  have HB2 := Aside0.mk (below_then (below_then HB1.out HB1.out.size B2.out) (Nat.le_trans HB1.out.size B2.out.size) hb)
  have HR2 := Aside0.mk (Kd.R_below (Kd.R_below HR.out B2.out) hb)
  clear HB1 HC1 HR B2 C2 hb
  simp only [errW_none]
  have B3 := Aside0.mk (Below.alloc (Below.refl w2.heap.size w2) (Nat.le_refl _) (Obj.cells #[Value.int .i64 0, Value.int .i64 0, Value.int .i64 0, Value.slice none 0 0, Value.string ⟨#[]⟩, Value.int .i64 0] 50))
  have C3 : Aside0 (Kd.C k50 (w2.alloc (Obj.cells #[Value.int .i64 0, Value.int .i64 0, Value.int .i64 0, Value.slice none 0 0, Value.string ⟨#[]⟩, Value.int .i64 0] 50)) (some ⟨w2.heap.size, 0, none⟩) [(⟨0, 0, 0, [], ⟨#[]⟩, 0⟩ : S50)].length [⟨0, 0, 0, [], ⟨#[]⟩, 0⟩]) :=
    ⟨Go.Proofs.Ytacdocchcfbgcaa.HBlk.C_of_block (heap_alloc_new w2 _) (Reps.c6 (k50_mk _ (⟨0, 0, 0, [], ⟨#[]⟩, 0⟩ : S50) (by decide) (Kd.C_nil _ _)) (Reps.none _ _)) (by decide)⟩
  go_wp2_with fail
  refine (clean_Needed.calls 50 (some ⟨w2.heap.size, 0, none⟩) 1 [⟨0, 0, 0, [], ⟨#[]⟩, 0⟩] none 0 [] _ _ _ C3.out (by decide) (Kd.C_nil _ _) (by decide) aw3).mono ?_
  rintro e w3 ⟨v3, rfl, hR3, hb⟩
  have HB3 := Aside0.mk (below_then (below_then HB2.out HB2.out.size B3.out) (Nat.le_trans HB2.out.size B3.out.size) hb)
  have HR3 := Aside0.mk (Kd.R_below (Kd.R_below HR2.out B3.out) hb)
  clear HB2 HR2 B3 C3 hb hR3
  simp only [errW_some]
  obtain ⟨g, cap, rfl, _, hg, _⟩ := Kd.R_form HR3.out (by decide)
  obtain ⟨_, _, hC⟩ := Kd.R_reads' HR3.out
  obtain ⟨ad0, he0, c00, c01⟩ := at_T64 hC 0 (by decide) (by decide)
  obtain ⟨ad1, he1, c10, c11⟩ := at_T64 hC 1 (by decide) (by decide)
  cases he0
  cases he1
  have d00 : w3.cell? ⟨g, 0, none⟩ = some (.int .i64 1) := c00
  have d01 : w3.cell? ⟨g, 1, none⟩ = some (.int .i64 3) := c01
  have d10 : w3.cell? ⟨g, 2, none⟩ = some (.int .i64 3) := c10
  have d11 : w3.cell? ⟨g, 3, none⟩ = some (.int .i64 0) := c11
  clear hC c00 c01 c10 c11 HR3 hg k1 k2
  simp only [List.length_cons, List.length_nil, Nat.zero_add, Nat.reduceAdd]
  have hcode : ∀ W : World, Calls Try.prog 33 #[.iface 90 (.int .i64 1)] W fun e w' => e = .returned (.int .i64 1) ∧ Drawn0 W w' := fun W => dolmenalike_Code.calls (some 1) 1 W (by kernel_rfl)
  have HH := Lib.hid hcode
  clear hcode
  go_wp2_with (go_at_call 33; refine (HH.out _).mono ?_; rintro e w' ⟨rfl, ⟨nn, rfl⟩⟩)
  go_ret
  exact ⟨rfl, pw_below_drewN HB3.out _⟩
def dolmenlaw14_awake.f : Option (Bool) := some true
theorem dolmenlaw14_awake.calls (r : Bool) (w : World) (h : dolmenlaw14_awake.f = some r) :
    Calls Try.prog 25 #[] w fun e w' => e = .returned (.bool r) ∧ Below w.heap.size w w' := by
  obtain rfl := Option.some.inj h
  exact aw_any w

end Go.Proofs.Ytacdocchcfbgcaa.Q
