-- printed by wip/mp.py (the kit's print, with given functions); Lean checks it
import Derived.Test.YtacdocchcfbgcaaQx0
import Derived.Test.YtacdocchcfbgcaaQx1
namespace Go.Proofs.Ytacdocchcfbgcaa.Q
open Go.RowKit Go.Proofs.YtacdocchcfbgcaaW.PrintWords Go.Proofs.YtacdocchcfbgcaaW.PrintLast Go.Proofs.YtacdocchcfbgcaaW.PrintMore
attribute [local go_sem] max2_int min2_int max_two min_two max_three min_three max_four min_four   -- for this text's walks alone
set_option linter.unusedVariables false
set_option linter.unusedSimpArgs false

/-! ### dolmenlaw14_small: function 24 -/
def dolmenlaw14_small.l0 : Nat → List (S32) → List Int → Int → Int → Option (Bool)
  | 0, _, _, _, _ => none
  | k + 1, x0, x1, x5, x6 => if x6 < (x0.length : Int) then (if 0 ≤ x6 then ((dolmenalike_Sum.f k x5 (([(((rd_T32 x0 x6).f3).length : Int), (((rd_T32 x0 x6).f4).size : Int), 1] : List Int))).bind fun t108 => (if t108 > 4000 then (some false) else (dolmenlaw14_small.l0 k x0 x1 t108 (wrap64 (x6 + 1))))) else (none)) else (if (x0.length : Int) ≤ 40 then (some (decide ((x1.length : Int) ≤ 20))) else (some false))
def dolmenlaw14_small.f (k : Nat) (l0 : List (S32)) (l1 : List Int) : Option (Bool) := dolmenlaw14_small.l0 k l0 l1 0 0
theorem dolmenlaw14_small.mono_l : ∀ k, (∀ y0 y1 y2 y3, LeO (dolmenlaw14_small.l0 k y0 y1 y2 y3) (dolmenlaw14_small.l0 (k + 1) y0 y1 y2 y3))
  | 0 => fun _ _ _ _ r h => by simp [dolmenlaw14_small.l0] at h
  | k + 1 => by
    have ih0 := dolmenlaw14_small.mono_l k
    · intro y0 y1 y2 y3
      unfold dolmenlaw14_small.l0
      repeat' first
      | (with_reducible exact ih0 _ _ _ _)
      | (with_reducible exact dolmenalike_Sum.mono _ _ _)
      | (with_reducible exact LeO.refl _)
      | (with_reducible exact LeO.none _)
      | (with_reducible refine LeO.ite ?_ ?_)
      | (with_reducible refine LeO.bind ?_ (fun _ => ?_))
      | exact ih0 _ _ _ _
      | exact dolmenalike_Sum.mono _ _ _
      | exact LeO.none _
      | refine LeO.ite ?_ ?_
      | refine LeO.bind ?_ (fun _ => ?_)
theorem dolmenlaw14_small.mono : ∀ a0 a1 k, LeO (dolmenlaw14_small.f k a0 a1) (dolmenlaw14_small.f (k + 1) a0 a1) := by
  intro a0 a1 k
  have ih0 := dolmenlaw14_small.mono_l k
  unfold dolmenlaw14_small.f
  repeat' first
      | (with_reducible exact ih0 _ _ _ _)
      | (with_reducible exact dolmenalike_Sum.mono _ _ _)
      | (with_reducible exact LeO.refl _)
      | (with_reducible exact LeO.none _)
      | (with_reducible refine LeO.ite ?_ ?_)
      | (with_reducible refine LeO.bind ?_ (fun _ => ?_))
      | exact ih0 _ _ _ _
      | exact dolmenalike_Sum.mono _ _ _
      | exact LeO.none _
      | refine LeO.ite ?_ ?_
      | refine LeO.bind ?_ (fun _ => ?_)
def dolmenlaw14_small.T5 : Bool × List (List Nat × List Nat) := (true, [([], []), ([], []), ([], []), ([1, 2], [1, 2]), ([3], [3]), ([4], [4]), ([5], [5]), ([], []), ([], []), ([7, 8], [7, 8]), ([9], [9]), ([10], [10]), ([11], [11]), ([6, 12], [6, 12]), ([0, 13], [0, 13]), ([14, 14, 0, 1, 2, 3, 4, 5, 6, 7, 8, 9, 10, 11, 12, 13, 14], [0, 14])])
def dolmenlaw14_small.B5 : List Nat := [0, 0, 0, 6, 14, 30, 62, 0, 0, 384, 896, 1920, 3968, 8190, 16383, 32767]
theorem dolmenlaw14_small.tab5 : rtab .any (opsOf Try.f24 5) = dolmenlaw14_small.T5 := by kernel_rfl
theorem dolmenlaw14_small.bits5 : waitsOk dolmenlaw14_small.T5.2 dolmenlaw14_small.B5 = true := by kernel_rfl
set_option maxHeartbeats 8000000 in
set_option maxRecDepth 100000 in
theorem dolmenlaw14_small.calls (k : Nat) (A0 : Option Addr) (c0 : Nat) (l0 : List (S32)) (A1 : Option Addr) (c1 : Nat) (l1 : List Int) (r : Bool) (w : World) (hr0 : Kd.C k32 w A0 l0.length l0) (hc0 : l0.length ≤ c0) (hr1 : Kd.C (Kd.int .i64) w A1 l1.length l1) (hc1 : l1.length ≤ c1) (h : dolmenlaw14_small.f k l0 l1 = some r) :
    Calls Try.prog 24 #[.slice A0 l0.length c0, .slice A1 l1.length c1] w fun e w' => e = .returned (.bool r) ∧ Below w.heap.size w w' := by
  have HR0 := Aside0.mk hr0
  have HC0 := Aside0.mk hc0
  clear hr0 hc0
  have HR1 := Aside0.mk hr1
  have HC1 := Aside0.mk hc1
  clear hr1 hc1
  have HB := Aside0.mk (Below.refl w.heap.size w)
  have H : (dolmenlaw14_small.l0 k l0 l1 0 0) = some r := h
  clear h
  have H' := Aside0.mk H
  clear H
  go_enter Try.func24, Try.ntmps24
  go_wp2
  go_loopg [5, 6] k (fun kq v5 v6 w' => ∃ (x5_1 : Int) (x6_1 : Int), v5 = .int .i64 x5_1 ∧ v6 = .int .i64 x6_1 ∧ Aside0 (dolmenlaw14_small.l0 kq l0 l1 x5_1 x6_1 = some r) ∧ Aside0 (kq ≤ k) ∧ Aside0 (Below w.heap.size w w'))
  case atStart => exact ⟨(0), (0), (by first | rfl | (simp; done) | (simp [*]; done)), (by first | rfl | (simp; done) | (simp [*]; done)), H', ⟨Nat.le_refl _⟩, ⟨by repeat (first | (with_reducible first | exact HB.out | apply below_alloc | apply pw_below_drewN | apply below_drew1) | exact HB.out)⟩⟩
  case round =>
    clear H'
    try clear c1
    try clear c2
    try clear p2
    obtain ⟨x5_1, x6_1, rfl, rfl, HA, HK1, HB⟩ := hrel
    cases gk with
    | zero => exact absurd HA.out (by simp [dolmenlaw14_small.l0])
    | succ k1 =>
      have H := HA.out
      clear HA
      simp only [dolmenlaw14_small.l0] at H
      by_cases c3 : x6_1 < (l0.length : Int)
      · rw [if_pos c3] at H
        have c3b0 : decide (x6_1 < (l0.length : Int)) = true := decide_eq_true c3
        clear c3
        by_cases c4 : 0 ≤ x6_1
        · rw [if_pos c4] at H
          have c4b0 : decide (0 ≤ x6_1) = true := decide_eq_true c4
          clear c4
          obtain ⟨y105, hy105⟩ : ∃ y_ : List Int, y_ = (([(((rd_T32 l0 x6_1).f3).length : Int), (((rd_T32 l0 x6_1).f4).size : Int), 1] : List Int)) := ⟨_, rfl⟩
          replace H : ((dolmenalike_Sum.f k1 x5_1 y105).bind fun t108 => (if t108 > 4000 then (some false) else (dolmenlaw14_small.l0 k1 l0 l1 t108 (wrap64 (x6_1 + 1))))) = some r := by first | (rw [hy105]; with_reducible exact H) | (have H2_ := (Option.bind_some _ _).symm.trans H; rw [hy105]; with_reducible exact H2_) | (have H2_ := (Option.bind_some _ _).symm.trans H; with_reducible exact H2_) | with_reducible exact H | (rw [hy105]; exact H) | exact H
          have Ny105 := Aside0.mk hy105
          clear hy105
          replace H := Option.bind_eq_some_iff.mp H
          obtain ⟨t108, A50, H⟩ := H
          replace H : (if t108 > 4000 then (some false) else (dolmenlaw14_small.l0 k1 l0 l1 t108 (wrap64 (x6_1 + 1)))) = some r := H
          have A5 := Aside0.mk A50
          clear A50
          by_cases c6 : t108 > 4000
          · rw [if_pos c6] at H
            have c6b0 : decide (4000 < t108) = true := decide_eq_true c6
            clear c6
            obtain rfl := Option.some.inj H
            try go_wp2
            have n0_ := Aside0.mk (below_drew1 HB.out)
            clear HB
            have HB := n0_
            clear n0_
            have p103 : 0 ≤ (x6_1 : Int) := of_decide_eq_true (by first | (with_reducible assumption) | assumption)
            have q103 : x6_1 < (l0.length : Int) := of_decide_eq_true (by first | (with_reducible assumption) | assumption)
            obtain ⟨ad103, A103_3, c103_3, e103, hx103_0, hx103_1, hx103_2, hx103_3, hx103_4, hx103_5, hl103_3, hi103_3⟩ := at_T32 HR0.out x6_1 p103 q103
            have hw103_5 := hx103_5
            have hw103_4 := hx103_4
            have hw103_3 := hx103_3
            have hw103_2 := hx103_2
            have hw103_1 := hx103_1
            have hw103_0 := hx103_0
            cases e103
            replace hx103_0 := (HB.out.cell (World.block_lt_of_cell? w _ hx103_0)).trans hx103_0
            replace hx103_1 := (HB.out.cell (World.block_lt_of_cell? w _ hx103_1)).trans hx103_1
            replace hx103_2 := (HB.out.cell (World.block_lt_of_cell? w _ hx103_2)).trans hx103_2
            replace hx103_3 := (HB.out.cell (World.block_lt_of_cell? w _ hx103_3)).trans hx103_3
            replace hx103_4 := (HB.out.cell (World.block_lt_of_cell? w _ hx103_4)).trans hx103_4
            replace hx103_5 := (HB.out.cell (World.block_lt_of_cell? w _ hx103_5)).trans hx103_5
            have HR103_3 := Aside0.mk hi103_3
            have HC103_3 := Aside0.mk hl103_3
            clear hi103_3 hl103_3
            replace p103 := eq_true p103
            replace q103 := eq_true q103
            have p104 : 0 ≤ (x6_1 : Int) := of_decide_eq_true (by first | (with_reducible assumption) | assumption)
            have q104 : x6_1 < (l0.length : Int) := of_decide_eq_true (by first | (with_reducible assumption) | assumption)
            obtain ⟨ad104, A104_3, c104_3, e104, hx104_0, hx104_1, hx104_2, hx104_3, hx104_4, hx104_5, hl104_3, hi104_3⟩ := at_T32 HR0.out x6_1 p104 q104
            have hw104_5 := hx104_5
            have hw104_4 := hx104_4
            have hw104_3 := hx104_3
            have hw104_2 := hx104_2
            have hw104_1 := hx104_1
            have hw104_0 := hx104_0
            obtain rfl : ad103 = ad104 := (by injection e104)
            replace hx104_0 := (HB.out.cell (World.block_lt_of_cell? w _ hx104_0)).trans hx104_0
            replace hx104_1 := (HB.out.cell (World.block_lt_of_cell? w _ hx104_1)).trans hx104_1
            replace hx104_2 := (HB.out.cell (World.block_lt_of_cell? w _ hx104_2)).trans hx104_2
            replace hx104_3 := (HB.out.cell (World.block_lt_of_cell? w _ hx104_3)).trans hx104_3
            replace hx104_4 := (HB.out.cell (World.block_lt_of_cell? w _ hx104_4)).trans hx104_4
            replace hx104_5 := (HB.out.cell (World.block_lt_of_cell? w _ hx104_5)).trans hx104_5
            have HR104_3 := Aside0.mk hi104_3
            have HC104_3 := Aside0.mk hl104_3
            clear hi104_3 hl104_3
            replace p104 := eq_true p104
            replace q104 := eq_true q104
            have ea_ := Option.some.inj (hx103_3.symm.trans hx104_3)
            injection ea_ with ea_ en_ ec_
            subst ea_
            subst ec_
            clear en_
            refine start_ (n := 16) (S := fun w' => w'.cell? (ad103.add ((x6_1).toNat * 6)) = some (.int .i64 ((rd_T32 l0 x6_1).f0)) ∧ w'.cell? ⟨(ad103.add ((x6_1).toNat * 6)).block, (ad103.add ((x6_1).toNat * 6)).off + 1, none⟩ = some (.int .i64 ((rd_T32 l0 x6_1).f1)) ∧ w'.cell? ⟨(ad103.add ((x6_1).toNat * 6)).block, (ad103.add ((x6_1).toNat * 6)).off + 2, none⟩ = some (.int .i64 ((rd_T32 l0 x6_1).f2)) ∧ w'.cell? ⟨(ad103.add ((x6_1).toNat * 6)).block, (ad103.add ((x6_1).toNat * 6)).off + 3, none⟩ = some (.slice A103_3 ((rd_T32 l0 x6_1).f3).length c103_3) ∧ w'.cell? ⟨(ad103.add ((x6_1).toNat * 6)).block, (ad103.add ((x6_1).toNat * 6)).off + 4, none⟩ = some (.string ((rd_T32 l0 x6_1).f4)) ∧ w'.cell? ⟨(ad103.add ((x6_1).toNat * 6)).block, (ad103.add ((x6_1).toNat * 6)).off + 5, none⟩ = some (.int .i64 ((rd_T32 l0 x6_1).f5)) ∧ w'.cell? (ad103.add ((x6_1).toNat * 6)) = some (.int .i64 ((rd_T32 l0 x6_1).f0)) ∧ w'.cell? ⟨(ad103.add ((x6_1).toNat * 6)).block, (ad103.add ((x6_1).toNat * 6)).off + 1, none⟩ = some (.int .i64 ((rd_T32 l0 x6_1).f1)) ∧ w'.cell? ⟨(ad103.add ((x6_1).toNat * 6)).block, (ad103.add ((x6_1).toNat * 6)).off + 2, none⟩ = some (.int .i64 ((rd_T32 l0 x6_1).f2)) ∧ w'.cell? ⟨(ad103.add ((x6_1).toNat * 6)).block, (ad103.add ((x6_1).toNat * 6)).off + 3, none⟩ = some (.slice A103_3 ((rd_T32 l0 x6_1).f3).length c103_3) ∧ w'.cell? ⟨(ad103.add ((x6_1).toNat * 6)).block, (ad103.add ((x6_1).toNat * 6)).off + 4, none⟩ = some (.string ((rd_T32 l0 x6_1).f4)) ∧ w'.cell? ⟨(ad103.add ((x6_1).toNat * 6)).block, (ad103.add ((x6_1).toNat * 6)).off + 5, none⟩ = some (.int .i64 ((rd_T32 l0 x6_1).f5))) (ds := []) #[false, false, false, false, false, false, false, false, false, false, false, false, false, false, false, false] (by kernel_rfl) rfl rfl ⟨((HB.out.cell (World.block_lt_of_cell? w _ hw103_0)).trans hw103_0), ((HB.out.cell (World.block_lt_of_cell? w _ hw103_1)).trans hw103_1), ((HB.out.cell (World.block_lt_of_cell? w _ hw103_2)).trans hw103_2), ((HB.out.cell (World.block_lt_of_cell? w _ hw103_3)).trans hw103_3), ((HB.out.cell (World.block_lt_of_cell? w _ hw103_4)).trans hw103_4), ((HB.out.cell (World.block_lt_of_cell? w _ hw103_5)).trans hw103_5), ((HB.out.cell (World.block_lt_of_cell? w _ hw104_0)).trans hw104_0), ((HB.out.cell (World.block_lt_of_cell? w _ hw104_1)).trans hw104_1), ((HB.out.cell (World.block_lt_of_cell? w _ hw104_2)).trans hw104_2), ((HB.out.cell (World.block_lt_of_cell? w _ hw104_3)).trans hw104_3), ((HB.out.cell (World.block_lt_of_cell? w _ hw104_4)).trans hw104_4), ((HB.out.cell (World.block_lt_of_cell? w _ hw104_5)).trans hw104_5)⟩ (fun hHeld => ?_); refine with_tabW dolmenlaw14_small.tab5 dolmenlaw14_small.bits5 (fun HT_ HW_ => ?_)
            generalize wr.drew = w7 at HB HR103_3 HR104_3 hx103_0 hx103_1 hx103_2 hx103_3 hx103_4 hx103_5 hx104_0 hx104_1 hx104_2 hx104_3 hx104_4 hx104_5 hHeld ⊢
            refine pure_ (i := 0) (N := some 13) (v := ?_) (a' := ?_) #[true, false, false, false, false, false, false, false, false, false, false, false, false, false, false, false] rfl rfl (any_of HT_.out (by kernel_rfl)) (fun _ _ _ h => h) (Or.inl ⟨by rfl, ?_⟩) ?_ ?_
            rotate_left
            · intro w'
              go_simp
              with_reducible rfl
            rotate_left
            · simp only [Act.put, List.setIfInBounds_toArray, List.set_cons_zero, List.set_cons_succ, i64_w, i32_w]
              rfl
            refine pure_ (i := 1) (N := some 14) (v := ?_) (a' := ?_) #[true, true, false, false, false, false, false, false, false, false, false, false, false, false, false, false] rfl rfl (any_of HT_.out (by kernel_rfl)) (fun _ _ _ h => h) (Or.inl ⟨by rfl, ?_⟩) ?_ ?_
            rotate_left
            · intro w'
              go_simp
              with_reducible rfl
            rotate_left
            · simp only [Act.put, List.setIfInBounds_toArray, List.set_cons_zero, List.set_cons_succ, i64_w, i32_w]
              rfl
            refine pure_ (i := 2) (N := some 15) (v := ?_) (a' := ?_) #[true, true, true, false, false, false, false, false, false, false, false, false, false, false, false, false] rfl rfl (any_of HT_.out (by kernel_rfl)) (fun _ _ _ h => h) (Or.inl ⟨by rfl, ?_⟩) ?_ ?_
            rotate_left
            · intro w'
              go_simp
              with_reducible rfl
            rotate_left
            · simp only [Act.put, List.setIfInBounds_toArray, List.set_cons_zero, List.set_cons_succ, i64_w, i32_w]
              rfl
            refine pure_ (i := 3) (N := some 16) (v := ?_) (a' := ?_) #[true, true, true, true, false, false, false, false, false, false, false, false, false, false, false, false] rfl rfl (any_of HT_.out (by kernel_rfl)) (fun _ _ _ h => h) (Or.inl ⟨by rfl, ?_⟩) ?_ ?_
            rotate_left
            · intro w'
              go_simp
              with_reducible rfl
            rotate_left
            · simp only [Act.put, List.setIfInBounds_toArray, List.set_cons_zero, List.set_cons_succ, i64_w, i32_w]
              rfl
            refine pure_ (i := 4) (N := some 17) (v := ?_) (a' := ?_) #[true, true, true, true, true, false, false, false, false, false, false, false, false, false, false, false] rfl rfl (any_of HT_.out (by kernel_rfl)) (fun _ _ _ h => h) (Or.inl ⟨by rfl, ?_⟩) ?_ ?_
            rotate_left
            · intro w'
              go_simp
              with_reducible rfl
            rotate_left
            · simp only [Act.put, List.setIfInBounds_toArray, List.set_cons_zero, List.set_cons_succ, i64_w, i32_w]
              rfl
            refine pure_ (i := 7) (N := some 20) (v := ?_) (a' := ?_) #[true, true, true, true, true, false, false, true, false, false, false, false, false, false, false, false] rfl rfl (any_of HT_.out (by kernel_rfl)) (fun _ _ _ h => h) (Or.inl ⟨by rfl, ?_⟩) ?_ ?_
            rotate_left
            · intro w'
              go_simp
              with_reducible rfl
            rotate_left
            · simp only [Act.put, List.setIfInBounds_toArray, List.set_cons_zero, List.set_cons_succ, i64_w, i32_w]
              rfl
            refine pure_ (i := 8) (N := some 21) (v := ?_) (a' := ?_) #[true, true, true, true, true, false, false, true, true, false, false, false, false, false, false, false] rfl rfl (any_of HT_.out (by kernel_rfl)) (fun _ _ _ h => h) (Or.inl ⟨by rfl, ?_⟩) ?_ ?_
            rotate_left
            · intro w'
              go_simp
              with_reducible rfl
            rotate_left
            · simp only [Act.put, List.setIfInBounds_toArray, List.set_cons_zero, List.set_cons_succ, i64_w, i32_w]
              rfl
            refine pure_ (i := 9) (N := some 22) (v := ?_) (a' := ?_) #[true, true, true, true, true, false, false, true, true, true, false, false, false, false, false, false] rfl rfl (any_of HT_.out (by kernel_rfl)) (fun _ _ _ h => h) (Or.inl ⟨by rfl, ?_⟩) ?_ ?_
            rotate_left
            · intro w'
              go_simp
              with_reducible rfl
            rotate_left
            · simp only [Act.put, List.setIfInBounds_toArray, List.set_cons_zero, List.set_cons_succ, i64_w, i32_w]
              rfl
            refine pure_ (i := 10) (N := some 23) (v := ?_) (a' := ?_) #[true, true, true, true, true, false, false, true, true, true, true, false, false, false, false, false] rfl rfl (any_of HT_.out (by kernel_rfl)) (fun _ _ _ h => h) (Or.inl ⟨by rfl, ?_⟩) ?_ ?_
            rotate_left
            · intro w'
              go_simp
              with_reducible rfl
            rotate_left
            · simp only [Act.put, List.setIfInBounds_toArray, List.set_cons_zero, List.set_cons_succ, i64_w, i32_w]
              rfl
            refine take_ (i := 5) (N := some 18) (v := ?_) (a' := ?_) #[true, true, true, true, true, true, false, true, true, true, true, false, false, false, false, false] rfl rfl (take_ofW HT_.out HW_.out (by kernel_rfl)) (fun _ _ _ h => h) (Or.inl ⟨by rfl, ?_⟩) hHeld ?_ ?_
            rotate_left
            · rintro w' ⟨s0, s1, s2, s3, s4, s5, s6, s7, s8, s9, s10, s11⟩
              go_simp
              with_reducible rfl
            rotate_left
            · simp only [Act.put, List.setIfInBounds_toArray, List.set_cons_zero, List.set_cons_succ, i64_w, i32_w]
              rfl
            refine pure_ (i := 6) (N := some 19) (v := ?_) (a' := ?_) #[true, true, true, true, true, true, true, true, true, true, true, false, false, false, false, false] rfl rfl (any_of HT_.out (by kernel_rfl)) (fun _ _ _ h => h) (Or.inl ⟨by rfl, ?_⟩) ?_ ?_
            rotate_left
            · intro w'
              go_simp
              with_reducible rfl
            rotate_left
            · simp only [Act.put, List.setIfInBounds_toArray, List.set_cons_zero, List.set_cons_succ, i64_w, i32_w]
              rfl
            refine take_ (i := 11) (N := some 24) (v := ?_) (a' := ?_) #[true, true, true, true, true, true, true, true, true, true, true, true, false, false, false, false] rfl rfl (take_ofW HT_.out HW_.out (by kernel_rfl)) (fun _ _ _ h => h) (Or.inl ⟨by rfl, ?_⟩) hHeld ?_ ?_
            rotate_left
            · rintro w' ⟨s0, s1, s2, s3, s4, s5, s6, s7, s8, s9, s10, s11⟩
              go_simp
              with_reducible rfl
            rotate_left
            · simp only [Act.put, List.setIfInBounds_toArray, List.set_cons_zero, List.set_cons_succ, i64_w, i32_w]
              rfl
            refine pure_ (i := 12) (N := some 25) (v := ?_) (a' := ?_) #[true, true, true, true, true, true, true, true, true, true, true, true, true, false, false, false] rfl rfl (any_of HT_.out (by kernel_rfl)) (fun _ _ _ h => h) (Or.inl ⟨by rfl, ?_⟩) ?_ ?_
            rotate_left
            · intro w'
              go_simp
              with_reducible rfl
            rotate_left
            · simp only [Act.put, List.setIfInBounds_toArray, List.set_cons_zero, List.set_cons_succ, i64_w, i32_w]
              rfl
            refine one_ (i := 13) (N := some 26) #[true, true, true, true, true, true, true, true, true, true, true, true, true, true, false, false] rfl rfl (one_of HT_.out (by kernel_rfl)) (by decide) (fun K hK => ?_)
            refine Kd.R_lit_step (Kd.int .i64) _ 3 ?hg (N := 26) ?hd (xs := ([(((rd_T32 l0 x6_1).f3).length : Int), (((rd_T32 l0 x6_1).f4).size : Int), 1] : List Int)) (inner := [.int .i64 (((rd_T32 l0 x6_1).f3).length : Int), .int .i64 (((rd_T32 l0 x6_1).f4).size : Int), .int .i64 1]) (ok := fun _ => True) (okp := fun _ => True) ?hr ?hp (fun _ hk => hk) trivial (Below.refl _ _) (Nat.le_refl _) (by simp) ?_; (case hd => rfl); (case hg => rfl); (case hr => first | (go_simp; done) | (go_simp; rfl)); (case hp => exact (Reps.one (show Kd.M (Kd.int .i64) _ _ _ (((rd_T32 l0 x6_1).f3).length : Int) [.int .i64 (((rd_T32 l0 x6_1).f3).length : Int)] from rfl) (Reps.one (show Kd.M (Kd.int .i64) _ _ _ (((rd_T32 l0 x6_1).f4).size : Int) [.int .i64 (((rd_T32 l0 x6_1).f4).size : Int)] from rfl) (Reps.one (show Kd.M (Kd.int .i64) _ _ _ 1 [.int .i64 1] from rfl) (Reps.none _ _)))))
            intro v106 w8 ho9 hb hg_ hnew_
            clear hg_ hnew_
            (first | rw [← Ny105.out] at ho9 | (simp only [Int.reduceToNat] at ho9; rw [← Ny105.out] at ho9))
            have n0_ := Aside0.mk (Kd.R_lower ho9 (below_size (by repeat (first | (with_reducible first | exact HB.out | apply below_alloc | apply pw_below_drewN | apply below_drew1) | exact HB.out))))
            have n1_ := Aside0.mk (below_step (by repeat (first | (with_reducible first | exact HB.out | apply below_alloc | apply pw_below_drewN | apply below_drew1) | exact HB.out)) hb)
            clear HB
            have HO107 := n0_
            have HB := n1_
            clear n0_ n1_
            clear hb ho9
            obtain ⟨Ao10, co10, eo10⟩ := Kd.R_slice HO107.out
            (first | subst eo10 | (injection eo10 with f1_ f2_ f3_; have f4_ := f1_.symm; have f5_ := f3_.symm; clear f1_ f2_ f3_; subst f4_; subst f5_))
            refine hK.out _ _ ⟨((HB.out.cell (World.block_lt_of_cell? w _ hw103_0)).trans hw103_0), ((HB.out.cell (World.block_lt_of_cell? w _ hw103_1)).trans hw103_1), ((HB.out.cell (World.block_lt_of_cell? w _ hw103_2)).trans hw103_2), ((HB.out.cell (World.block_lt_of_cell? w _ hw103_3)).trans hw103_3), ((HB.out.cell (World.block_lt_of_cell? w _ hw103_4)).trans hw103_4), ((HB.out.cell (World.block_lt_of_cell? w _ hw103_5)).trans hw103_5), ((HB.out.cell (World.block_lt_of_cell? w _ hw104_0)).trans hw104_0), ((HB.out.cell (World.block_lt_of_cell? w _ hw104_1)).trans hw104_1), ((HB.out.cell (World.block_lt_of_cell? w _ hw104_2)).trans hw104_2), ((HB.out.cell (World.block_lt_of_cell? w _ hw104_3)).trans hw104_3), ((HB.out.cell (World.block_lt_of_cell? w _ hw104_4)).trans hw104_4), ((HB.out.cell (World.block_lt_of_cell? w _ hw104_5)).trans hw104_5)⟩ (fun hHeld => ?_)
            clear hK K
            refine norm_ (a' := ?_) ?_ ?_
            rotate_left
            · show Act.put _ (some 26) _ = _
              simp only [Act.put, List.setIfInBounds_toArray, List.set_cons_zero, List.set_cons_succ, i64_w, i32_w]
              rfl
            refine one_ (i := 14) (N := some 27) #[true, true, true, true, true, true, true, true, true, true, true, true, true, true, true, false] rfl rfl (one_of HT_.out (by kernel_rfl)) (by decide) (fun K hK => ?_)
            refine goes_ Try.func44 (by kernel_rfl) rfl #[.int .i64 x5_1, .slice Ao10 y105.length co10] (by rfl) rfl rfl (by (try simp only [List.map_toArray, List.map_cons, List.map_nil]); first | done | rfl | (simp only [List.length_drop, List.length_take]; rfl)) ?_
            with_reducible refine (dolmenalike_Sum.calls k1 x5_1 _ _ y105 t108 _ ?side1 ?side2 A5.out).mono ?_
            (case side1 => repeat (first | exact (Kd.R_reads' HO107.out).2.2 | (with_reducible refine Kd.C_alloc ?_ _) | (with_reducible refine Kd.C_drewN ?_ _) | (with_reducible refine Kd.C_drew ?_)))
            (case side2 => exact (Kd.R_reads' HO107.out).2.1)
            rintro e w' ⟨rfl, ⟨nd, rfl⟩⟩
            refine ⟨_, rfl, ?_⟩
            refine hK.out _ _ ⟨((HB.out.cell (World.block_lt_of_cell? w _ hw103_0)).trans hw103_0), ((HB.out.cell (World.block_lt_of_cell? w _ hw103_1)).trans hw103_1), ((HB.out.cell (World.block_lt_of_cell? w _ hw103_2)).trans hw103_2), ((HB.out.cell (World.block_lt_of_cell? w _ hw103_3)).trans hw103_3), ((HB.out.cell (World.block_lt_of_cell? w _ hw103_4)).trans hw103_4), ((HB.out.cell (World.block_lt_of_cell? w _ hw103_5)).trans hw103_5), ((HB.out.cell (World.block_lt_of_cell? w _ hw104_0)).trans hw104_0), ((HB.out.cell (World.block_lt_of_cell? w _ hw104_1)).trans hw104_1), ((HB.out.cell (World.block_lt_of_cell? w _ hw104_2)).trans hw104_2), ((HB.out.cell (World.block_lt_of_cell? w _ hw104_3)).trans hw104_3), ((HB.out.cell (World.block_lt_of_cell? w _ hw104_4)).trans hw104_4), ((HB.out.cell (World.block_lt_of_cell? w _ hw104_5)).trans hw104_5)⟩ (fun hHeld => ?_)
            clear hK K
            refine norm_ (a' := ?_) ?_ ?_
            rotate_left
            · show Act.put _ (some 27) _ = _
              simp only [Act.put, List.setIfInBounds_toArray, List.set_cons_zero, List.set_cons_succ, i64_w, i32_w]
              rfl
            refine pure_ (i := 15) (N := some 5) (v := ?_) (a' := ?_) #[true, true, true, true, true, true, true, true, true, true, true, true, true, true, true, true] rfl rfl (any_of HT_.out (by kernel_rfl)) (fun _ _ _ h => h) (Or.inl ⟨by rfl, ?_⟩) ?_ ?_
            rotate_left
            · intro w'
              go_simp
              with_reducible rfl
            rotate_left
            · simp only [Act.put, List.setIfInBounds_toArray, List.set_cons_zero, List.set_cons_succ, i64_w, i32_w]
              rfl
            refine done_ (done_of HT_.out (by kernel_rfl)) ?_
            try go_wp2
            go_ret
            exact ⟨by first | rfl | (simp [errW_none, errW_some] <;> rfl) | (simp [*, errW_none, errW_some] <;> rfl), by repeat (first | (with_reducible first | exact HB.out | apply below_alloc | apply pw_below_drewN | apply below_drew1) | exact HB.out)⟩
          · rw [if_neg c6] at H
            have c6b0 : decide (4000 < t108) = false := decide_eq_false c6
            clear c6
            have H' := Aside0.mk H
            clear H
            try go_wp2
            have n0_ := Aside0.mk (below_drew1 HB.out)
            clear HB
            have HB := n0_
            clear n0_
            have p103 : 0 ≤ (x6_1 : Int) := of_decide_eq_true (by first | (with_reducible assumption) | assumption)
            have q103 : x6_1 < (l0.length : Int) := of_decide_eq_true (by first | (with_reducible assumption) | assumption)
            obtain ⟨ad103, A103_3, c103_3, e103, hx103_0, hx103_1, hx103_2, hx103_3, hx103_4, hx103_5, hl103_3, hi103_3⟩ := at_T32 HR0.out x6_1 p103 q103
            have hw103_5 := hx103_5
            have hw103_4 := hx103_4
            have hw103_3 := hx103_3
            have hw103_2 := hx103_2
            have hw103_1 := hx103_1
            have hw103_0 := hx103_0
            cases e103
            replace hx103_0 := (HB.out.cell (World.block_lt_of_cell? w _ hx103_0)).trans hx103_0
            replace hx103_1 := (HB.out.cell (World.block_lt_of_cell? w _ hx103_1)).trans hx103_1
            replace hx103_2 := (HB.out.cell (World.block_lt_of_cell? w _ hx103_2)).trans hx103_2
            replace hx103_3 := (HB.out.cell (World.block_lt_of_cell? w _ hx103_3)).trans hx103_3
            replace hx103_4 := (HB.out.cell (World.block_lt_of_cell? w _ hx103_4)).trans hx103_4
            replace hx103_5 := (HB.out.cell (World.block_lt_of_cell? w _ hx103_5)).trans hx103_5
            have HR103_3 := Aside0.mk hi103_3
            have HC103_3 := Aside0.mk hl103_3
            clear hi103_3 hl103_3
            replace p103 := eq_true p103
            replace q103 := eq_true q103
            have p104 : 0 ≤ (x6_1 : Int) := of_decide_eq_true (by first | (with_reducible assumption) | assumption)
            have q104 : x6_1 < (l0.length : Int) := of_decide_eq_true (by first | (with_reducible assumption) | assumption)
            obtain ⟨ad104, A104_3, c104_3, e104, hx104_0, hx104_1, hx104_2, hx104_3, hx104_4, hx104_5, hl104_3, hi104_3⟩ := at_T32 HR0.out x6_1 p104 q104
            have hw104_5 := hx104_5
            have hw104_4 := hx104_4
            have hw104_3 := hx104_3
            have hw104_2 := hx104_2
            have hw104_1 := hx104_1
            have hw104_0 := hx104_0
            obtain rfl : ad103 = ad104 := (by injection e104)
            replace hx104_0 := (HB.out.cell (World.block_lt_of_cell? w _ hx104_0)).trans hx104_0
            replace hx104_1 := (HB.out.cell (World.block_lt_of_cell? w _ hx104_1)).trans hx104_1
            replace hx104_2 := (HB.out.cell (World.block_lt_of_cell? w _ hx104_2)).trans hx104_2
            replace hx104_3 := (HB.out.cell (World.block_lt_of_cell? w _ hx104_3)).trans hx104_3
            replace hx104_4 := (HB.out.cell (World.block_lt_of_cell? w _ hx104_4)).trans hx104_4
            replace hx104_5 := (HB.out.cell (World.block_lt_of_cell? w _ hx104_5)).trans hx104_5
            have HR104_3 := Aside0.mk hi104_3
            have HC104_3 := Aside0.mk hl104_3
            clear hi104_3 hl104_3
            replace p104 := eq_true p104
            replace q104 := eq_true q104
            have ea_ := Option.some.inj (hx103_3.symm.trans hx104_3)
            injection ea_ with ea_ en_ ec_
            subst ea_
            subst ec_
            clear en_
            refine start_ (n := 16) (S := fun w' => w'.cell? (ad103.add ((x6_1).toNat * 6)) = some (.int .i64 ((rd_T32 l0 x6_1).f0)) ∧ w'.cell? ⟨(ad103.add ((x6_1).toNat * 6)).block, (ad103.add ((x6_1).toNat * 6)).off + 1, none⟩ = some (.int .i64 ((rd_T32 l0 x6_1).f1)) ∧ w'.cell? ⟨(ad103.add ((x6_1).toNat * 6)).block, (ad103.add ((x6_1).toNat * 6)).off + 2, none⟩ = some (.int .i64 ((rd_T32 l0 x6_1).f2)) ∧ w'.cell? ⟨(ad103.add ((x6_1).toNat * 6)).block, (ad103.add ((x6_1).toNat * 6)).off + 3, none⟩ = some (.slice A103_3 ((rd_T32 l0 x6_1).f3).length c103_3) ∧ w'.cell? ⟨(ad103.add ((x6_1).toNat * 6)).block, (ad103.add ((x6_1).toNat * 6)).off + 4, none⟩ = some (.string ((rd_T32 l0 x6_1).f4)) ∧ w'.cell? ⟨(ad103.add ((x6_1).toNat * 6)).block, (ad103.add ((x6_1).toNat * 6)).off + 5, none⟩ = some (.int .i64 ((rd_T32 l0 x6_1).f5)) ∧ w'.cell? (ad103.add ((x6_1).toNat * 6)) = some (.int .i64 ((rd_T32 l0 x6_1).f0)) ∧ w'.cell? ⟨(ad103.add ((x6_1).toNat * 6)).block, (ad103.add ((x6_1).toNat * 6)).off + 1, none⟩ = some (.int .i64 ((rd_T32 l0 x6_1).f1)) ∧ w'.cell? ⟨(ad103.add ((x6_1).toNat * 6)).block, (ad103.add ((x6_1).toNat * 6)).off + 2, none⟩ = some (.int .i64 ((rd_T32 l0 x6_1).f2)) ∧ w'.cell? ⟨(ad103.add ((x6_1).toNat * 6)).block, (ad103.add ((x6_1).toNat * 6)).off + 3, none⟩ = some (.slice A103_3 ((rd_T32 l0 x6_1).f3).length c103_3) ∧ w'.cell? ⟨(ad103.add ((x6_1).toNat * 6)).block, (ad103.add ((x6_1).toNat * 6)).off + 4, none⟩ = some (.string ((rd_T32 l0 x6_1).f4)) ∧ w'.cell? ⟨(ad103.add ((x6_1).toNat * 6)).block, (ad103.add ((x6_1).toNat * 6)).off + 5, none⟩ = some (.int .i64 ((rd_T32 l0 x6_1).f5))) (ds := []) #[false, false, false, false, false, false, false, false, false, false, false, false, false, false, false, false] (by kernel_rfl) rfl rfl ⟨((HB.out.cell (World.block_lt_of_cell? w _ hw103_0)).trans hw103_0), ((HB.out.cell (World.block_lt_of_cell? w _ hw103_1)).trans hw103_1), ((HB.out.cell (World.block_lt_of_cell? w _ hw103_2)).trans hw103_2), ((HB.out.cell (World.block_lt_of_cell? w _ hw103_3)).trans hw103_3), ((HB.out.cell (World.block_lt_of_cell? w _ hw103_4)).trans hw103_4), ((HB.out.cell (World.block_lt_of_cell? w _ hw103_5)).trans hw103_5), ((HB.out.cell (World.block_lt_of_cell? w _ hw104_0)).trans hw104_0), ((HB.out.cell (World.block_lt_of_cell? w _ hw104_1)).trans hw104_1), ((HB.out.cell (World.block_lt_of_cell? w _ hw104_2)).trans hw104_2), ((HB.out.cell (World.block_lt_of_cell? w _ hw104_3)).trans hw104_3), ((HB.out.cell (World.block_lt_of_cell? w _ hw104_4)).trans hw104_4), ((HB.out.cell (World.block_lt_of_cell? w _ hw104_5)).trans hw104_5)⟩ (fun hHeld => ?_); refine with_tabW dolmenlaw14_small.tab5 dolmenlaw14_small.bits5 (fun HT_ HW_ => ?_)
            generalize wr.drew = w11 at HB HR103_3 HR104_3 hx103_0 hx103_1 hx103_2 hx103_3 hx103_4 hx103_5 hx104_0 hx104_1 hx104_2 hx104_3 hx104_4 hx104_5 hHeld ⊢
            refine pure_ (i := 0) (N := some 13) (v := ?_) (a' := ?_) #[true, false, false, false, false, false, false, false, false, false, false, false, false, false, false, false] rfl rfl (any_of HT_.out (by kernel_rfl)) (fun _ _ _ h => h) (Or.inl ⟨by rfl, ?_⟩) ?_ ?_
            rotate_left
            · intro w'
              go_simp
              with_reducible rfl
            rotate_left
            · simp only [Act.put, List.setIfInBounds_toArray, List.set_cons_zero, List.set_cons_succ, i64_w, i32_w]
              rfl
            refine pure_ (i := 1) (N := some 14) (v := ?_) (a' := ?_) #[true, true, false, false, false, false, false, false, false, false, false, false, false, false, false, false] rfl rfl (any_of HT_.out (by kernel_rfl)) (fun _ _ _ h => h) (Or.inl ⟨by rfl, ?_⟩) ?_ ?_
            rotate_left
            · intro w'
              go_simp
              with_reducible rfl
            rotate_left
            · simp only [Act.put, List.setIfInBounds_toArray, List.set_cons_zero, List.set_cons_succ, i64_w, i32_w]
              rfl
            refine pure_ (i := 2) (N := some 15) (v := ?_) (a' := ?_) #[true, true, true, false, false, false, false, false, false, false, false, false, false, false, false, false] rfl rfl (any_of HT_.out (by kernel_rfl)) (fun _ _ _ h => h) (Or.inl ⟨by rfl, ?_⟩) ?_ ?_
            rotate_left
            · intro w'
              go_simp
              with_reducible rfl
            rotate_left
            · simp only [Act.put, List.setIfInBounds_toArray, List.set_cons_zero, List.set_cons_succ, i64_w, i32_w]
              rfl
            refine pure_ (i := 3) (N := some 16) (v := ?_) (a' := ?_) #[true, true, true, true, false, false, false, false, false, false, false, false, false, false, false, false] rfl rfl (any_of HT_.out (by kernel_rfl)) (fun _ _ _ h => h) (Or.inl ⟨by rfl, ?_⟩) ?_ ?_
            rotate_left
            · intro w'
              go_simp
              with_reducible rfl
            rotate_left
            · simp only [Act.put, List.setIfInBounds_toArray, List.set_cons_zero, List.set_cons_succ, i64_w, i32_w]
              rfl
            refine pure_ (i := 4) (N := some 17) (v := ?_) (a' := ?_) #[true, true, true, true, true, false, false, false, false, false, false, false, false, false, false, false] rfl rfl (any_of HT_.out (by kernel_rfl)) (fun _ _ _ h => h) (Or.inl ⟨by rfl, ?_⟩) ?_ ?_
            rotate_left
            · intro w'
              go_simp
              with_reducible rfl
            rotate_left
            · simp only [Act.put, List.setIfInBounds_toArray, List.set_cons_zero, List.set_cons_succ, i64_w, i32_w]
              rfl
            refine pure_ (i := 7) (N := some 20) (v := ?_) (a' := ?_) #[true, true, true, true, true, false, false, true, false, false, false, false, false, false, false, false] rfl rfl (any_of HT_.out (by kernel_rfl)) (fun _ _ _ h => h) (Or.inl ⟨by rfl, ?_⟩) ?_ ?_
            rotate_left
            · intro w'
              go_simp
              with_reducible rfl
            rotate_left
            · simp only [Act.put, List.setIfInBounds_toArray, List.set_cons_zero, List.set_cons_succ, i64_w, i32_w]
              rfl
            refine pure_ (i := 8) (N := some 21) (v := ?_) (a' := ?_) #[true, true, true, true, true, false, false, true, true, false, false, false, false, false, false, false] rfl rfl (any_of HT_.out (by kernel_rfl)) (fun _ _ _ h => h) (Or.inl ⟨by rfl, ?_⟩) ?_ ?_
            rotate_left
            · intro w'
              go_simp
              with_reducible rfl
            rotate_left
            · simp only [Act.put, List.setIfInBounds_toArray, List.set_cons_zero, List.set_cons_succ, i64_w, i32_w]
              rfl
            refine pure_ (i := 9) (N := some 22) (v := ?_) (a' := ?_) #[true, true, true, true, true, false, false, true, true, true, false, false, false, false, false, false] rfl rfl (any_of HT_.out (by kernel_rfl)) (fun _ _ _ h => h) (Or.inl ⟨by rfl, ?_⟩) ?_ ?_
            rotate_left
            · intro w'
              go_simp
              with_reducible rfl
            rotate_left
            · simp only [Act.put, List.setIfInBounds_toArray, List.set_cons_zero, List.set_cons_succ, i64_w, i32_w]
              rfl
            refine pure_ (i := 10) (N := some 23) (v := ?_) (a' := ?_) #[true, true, true, true, true, false, false, true, true, true, true, false, false, false, false, false] rfl rfl (any_of HT_.out (by kernel_rfl)) (fun _ _ _ h => h) (Or.inl ⟨by rfl, ?_⟩) ?_ ?_
            rotate_left
            · intro w'
              go_simp
              with_reducible rfl
            rotate_left
            · simp only [Act.put, List.setIfInBounds_toArray, List.set_cons_zero, List.set_cons_succ, i64_w, i32_w]
              rfl
            refine take_ (i := 5) (N := some 18) (v := ?_) (a' := ?_) #[true, true, true, true, true, true, false, true, true, true, true, false, false, false, false, false] rfl rfl (take_ofW HT_.out HW_.out (by kernel_rfl)) (fun _ _ _ h => h) (Or.inl ⟨by rfl, ?_⟩) hHeld ?_ ?_
            rotate_left
            · rintro w' ⟨s0, s1, s2, s3, s4, s5, s6, s7, s8, s9, s10, s11⟩
              go_simp
              with_reducible rfl
            rotate_left
            · simp only [Act.put, List.setIfInBounds_toArray, List.set_cons_zero, List.set_cons_succ, i64_w, i32_w]
              rfl
            refine pure_ (i := 6) (N := some 19) (v := ?_) (a' := ?_) #[true, true, true, true, true, true, true, true, true, true, true, false, false, false, false, false] rfl rfl (any_of HT_.out (by kernel_rfl)) (fun _ _ _ h => h) (Or.inl ⟨by rfl, ?_⟩) ?_ ?_
            rotate_left
            · intro w'
              go_simp
              with_reducible rfl
            rotate_left
            · simp only [Act.put, List.setIfInBounds_toArray, List.set_cons_zero, List.set_cons_succ, i64_w, i32_w]
              rfl
            refine take_ (i := 11) (N := some 24) (v := ?_) (a' := ?_) #[true, true, true, true, true, true, true, true, true, true, true, true, false, false, false, false] rfl rfl (take_ofW HT_.out HW_.out (by kernel_rfl)) (fun _ _ _ h => h) (Or.inl ⟨by rfl, ?_⟩) hHeld ?_ ?_
            rotate_left
            · rintro w' ⟨s0, s1, s2, s3, s4, s5, s6, s7, s8, s9, s10, s11⟩
              go_simp
              with_reducible rfl
            rotate_left
            · simp only [Act.put, List.setIfInBounds_toArray, List.set_cons_zero, List.set_cons_succ, i64_w, i32_w]
              rfl
            refine pure_ (i := 12) (N := some 25) (v := ?_) (a' := ?_) #[true, true, true, true, true, true, true, true, true, true, true, true, true, false, false, false] rfl rfl (any_of HT_.out (by kernel_rfl)) (fun _ _ _ h => h) (Or.inl ⟨by rfl, ?_⟩) ?_ ?_
            rotate_left
            · intro w'
              go_simp
              with_reducible rfl
            rotate_left
            · simp only [Act.put, List.setIfInBounds_toArray, List.set_cons_zero, List.set_cons_succ, i64_w, i32_w]
              rfl
            refine one_ (i := 13) (N := some 26) #[true, true, true, true, true, true, true, true, true, true, true, true, true, true, false, false] rfl rfl (one_of HT_.out (by kernel_rfl)) (by decide) (fun K hK => ?_)
            refine Kd.R_lit_step (Kd.int .i64) _ 3 ?hg (N := 26) ?hd (xs := ([(((rd_T32 l0 x6_1).f3).length : Int), (((rd_T32 l0 x6_1).f4).size : Int), 1] : List Int)) (inner := [.int .i64 (((rd_T32 l0 x6_1).f3).length : Int), .int .i64 (((rd_T32 l0 x6_1).f4).size : Int), .int .i64 1]) (ok := fun _ => True) (okp := fun _ => True) ?hr ?hp (fun _ hk => hk) trivial (Below.refl _ _) (Nat.le_refl _) (by simp) ?_; (case hd => rfl); (case hg => rfl); (case hr => first | (go_simp; done) | (go_simp; rfl)); (case hp => exact (Reps.one (show Kd.M (Kd.int .i64) _ _ _ (((rd_T32 l0 x6_1).f3).length : Int) [.int .i64 (((rd_T32 l0 x6_1).f3).length : Int)] from rfl) (Reps.one (show Kd.M (Kd.int .i64) _ _ _ (((rd_T32 l0 x6_1).f4).size : Int) [.int .i64 (((rd_T32 l0 x6_1).f4).size : Int)] from rfl) (Reps.one (show Kd.M (Kd.int .i64) _ _ _ 1 [.int .i64 1] from rfl) (Reps.none _ _)))))
            intro v106 w12 ho13 hb hg_ hnew_
            clear hg_ hnew_
            (first | rw [← Ny105.out] at ho13 | (simp only [Int.reduceToNat] at ho13; rw [← Ny105.out] at ho13))
            have n0_ := Aside0.mk (Kd.R_lower ho13 (below_size (by repeat (first | (with_reducible first | exact HB.out | apply below_alloc | apply pw_below_drewN | apply below_drew1) | exact HB.out))))
            have n1_ := Aside0.mk (below_step (by repeat (first | (with_reducible first | exact HB.out | apply below_alloc | apply pw_below_drewN | apply below_drew1) | exact HB.out)) hb)
            clear HB
            have HO107 := n0_
            have HB := n1_
            clear n0_ n1_
            clear hb ho13
            obtain ⟨Ao14, co14, eo14⟩ := Kd.R_slice HO107.out
            (first | subst eo14 | (injection eo14 with f1_ f2_ f3_; have f4_ := f1_.symm; have f5_ := f3_.symm; clear f1_ f2_ f3_; subst f4_; subst f5_))
            refine hK.out _ _ ⟨((HB.out.cell (World.block_lt_of_cell? w _ hw103_0)).trans hw103_0), ((HB.out.cell (World.block_lt_of_cell? w _ hw103_1)).trans hw103_1), ((HB.out.cell (World.block_lt_of_cell? w _ hw103_2)).trans hw103_2), ((HB.out.cell (World.block_lt_of_cell? w _ hw103_3)).trans hw103_3), ((HB.out.cell (World.block_lt_of_cell? w _ hw103_4)).trans hw103_4), ((HB.out.cell (World.block_lt_of_cell? w _ hw103_5)).trans hw103_5), ((HB.out.cell (World.block_lt_of_cell? w _ hw104_0)).trans hw104_0), ((HB.out.cell (World.block_lt_of_cell? w _ hw104_1)).trans hw104_1), ((HB.out.cell (World.block_lt_of_cell? w _ hw104_2)).trans hw104_2), ((HB.out.cell (World.block_lt_of_cell? w _ hw104_3)).trans hw104_3), ((HB.out.cell (World.block_lt_of_cell? w _ hw104_4)).trans hw104_4), ((HB.out.cell (World.block_lt_of_cell? w _ hw104_5)).trans hw104_5)⟩ (fun hHeld => ?_)
            clear hK K
            refine norm_ (a' := ?_) ?_ ?_
            rotate_left
            · show Act.put _ (some 26) _ = _
              simp only [Act.put, List.setIfInBounds_toArray, List.set_cons_zero, List.set_cons_succ, i64_w, i32_w]
              rfl
            refine one_ (i := 14) (N := some 27) #[true, true, true, true, true, true, true, true, true, true, true, true, true, true, true, false] rfl rfl (one_of HT_.out (by kernel_rfl)) (by decide) (fun K hK => ?_)
            refine goes_ Try.func44 (by kernel_rfl) rfl #[.int .i64 x5_1, .slice Ao14 y105.length co14] (by rfl) rfl rfl (by (try simp only [List.map_toArray, List.map_cons, List.map_nil]); first | done | rfl | (simp only [List.length_drop, List.length_take]; rfl)) ?_
            with_reducible refine (dolmenalike_Sum.calls k1 x5_1 _ _ y105 t108 _ ?side1 ?side2 A5.out).mono ?_
            (case side1 => repeat (first | exact (Kd.R_reads' HO107.out).2.2 | (with_reducible refine Kd.C_alloc ?_ _) | (with_reducible refine Kd.C_drewN ?_ _) | (with_reducible refine Kd.C_drew ?_)))
            (case side2 => exact (Kd.R_reads' HO107.out).2.1)
            rintro e w' ⟨rfl, ⟨nd, rfl⟩⟩
            refine ⟨_, rfl, ?_⟩
            refine hK.out _ _ ⟨((HB.out.cell (World.block_lt_of_cell? w _ hw103_0)).trans hw103_0), ((HB.out.cell (World.block_lt_of_cell? w _ hw103_1)).trans hw103_1), ((HB.out.cell (World.block_lt_of_cell? w _ hw103_2)).trans hw103_2), ((HB.out.cell (World.block_lt_of_cell? w _ hw103_3)).trans hw103_3), ((HB.out.cell (World.block_lt_of_cell? w _ hw103_4)).trans hw103_4), ((HB.out.cell (World.block_lt_of_cell? w _ hw103_5)).trans hw103_5), ((HB.out.cell (World.block_lt_of_cell? w _ hw104_0)).trans hw104_0), ((HB.out.cell (World.block_lt_of_cell? w _ hw104_1)).trans hw104_1), ((HB.out.cell (World.block_lt_of_cell? w _ hw104_2)).trans hw104_2), ((HB.out.cell (World.block_lt_of_cell? w _ hw104_3)).trans hw104_3), ((HB.out.cell (World.block_lt_of_cell? w _ hw104_4)).trans hw104_4), ((HB.out.cell (World.block_lt_of_cell? w _ hw104_5)).trans hw104_5)⟩ (fun hHeld => ?_)
            clear hK K
            refine norm_ (a' := ?_) ?_ ?_
            rotate_left
            · show Act.put _ (some 27) _ = _
              simp only [Act.put, List.setIfInBounds_toArray, List.set_cons_zero, List.set_cons_succ, i64_w, i32_w]
              rfl
            refine pure_ (i := 15) (N := some 5) (v := ?_) (a' := ?_) #[true, true, true, true, true, true, true, true, true, true, true, true, true, true, true, true] rfl rfl (any_of HT_.out (by kernel_rfl)) (fun _ _ _ h => h) (Or.inl ⟨by rfl, ?_⟩) ?_ ?_
            rotate_left
            · intro w'
              go_simp
              with_reducible rfl
            rotate_left
            · simp only [Act.put, List.setIfInBounds_toArray, List.set_cons_zero, List.set_cons_succ, i64_w, i32_w]
              rfl
            refine done_ (done_of HT_.out (by kernel_rfl)) ?_
            try go_wp2
            go_roundg k1
            case measure => have := HK1.out; omega
            case rel => exact ⟨(t108), (wrap64 (x6_1 + 1)), (by first | rfl | (simp; done) | (simp [*]; done)), (by first | rfl | (simp; done) | (simp [*]; done)), H', ⟨by have := HK1.out; omega⟩, ⟨by repeat (first | (with_reducible first | exact HB.out | apply below_alloc | apply pw_below_drewN | apply below_drew1) | exact HB.out)⟩⟩
        · rw [if_neg c4] at H
          exact absurd H (by simp)
      · rw [if_neg c3] at H
        have c3b0 : decide (x6_1 < (l0.length : Int)) = false := decide_eq_false c3
        clear c3
        by_cases c15 : (l0.length : Int) ≤ 40
        · rw [if_pos c15] at H
          have c15b0 : decide ((l0.length : Int) ≤ 40) = true := decide_eq_true c15
          have c15b1 : decide (l0.length ≤ 40) = true := decide_eq_true (by omega)
          clear c15
          obtain rfl := Option.some.inj H
          go_wp2
          go_ret
          exact ⟨by first | rfl | (simp [errW_none, errW_some] <;> rfl) | (simp [*, errW_none, errW_some] <;> rfl), by repeat (first | (with_reducible first | exact HB.out | apply below_alloc | apply pw_below_drewN | apply below_drew1) | exact HB.out)⟩
        · rw [if_neg c15] at H
          have c15b0 : decide ((l0.length : Int) ≤ 40) = false := decide_eq_false c15
          have c15b1 : decide (l0.length ≤ 40) = false := decide_eq_false (by omega)
          clear c15
          obtain rfl := Option.some.inj H
          go_wp2
          go_ret
          exact ⟨by first | rfl | (simp [errW_none, errW_some] <;> rfl) | (simp [*, errW_none, errW_some] <;> rfl), by repeat (first | (with_reducible first | exact HB.out | apply below_alloc | apply pw_below_drewN | apply below_drew1) | exact HB.out)⟩

end Go.Proofs.Ytacdocchcfbgcaa.Q
