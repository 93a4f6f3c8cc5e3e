-- printed by wip/mp.py (the kit's print, with given functions); Lean checks it
import Derived.Test.YtacdocchcfbgcaaEx0
import Derived.Test.YtacdocchcfbgcaaEx2
import Derived.Test.YtacdocchcfbgcaaEx5
import Derived.Test.YtacdocchcfbgcaaEx6
import Derived.Test.YtacdocchcfbgcaaEx7
namespace Go.Proofs.Ytacdocchcfbgcaa.Q
open Go.RowKit Go.Proofs.YtacdocchcfbgcaaW.PrintWords Go.Proofs.YtacdocchcfbgcaaW.PrintLast Go.Proofs.YtacdocchcfbgcaaW.PrintMore
attribute [local go_sem] max2_int min2_int max_two min_two max_three min_three max_four min_four   -- for this text's walks alone
set_option linter.unusedVariables false
set_option linter.unusedSimpArgs false

theorem vstr_Ex8 {src dst e e0 base : Nat} {w : World} {ok : Nat → Prop} {v : Value} {xs : List Int} (hs : Try.prog.underlying src = some (.slice e)) (he : Try.prog.underlying e = some (.int .u8)) (hd : Try.prog.underlying dst = some .string) (h : Kd.V (Kd.int .u8) e0 w base ok v xs) :
    (convert src dst v).run Try.prog w = .ok (.string (strOfNums xs)) w := by
  obtain ⟨A, c, rfl, hl, hf⟩ := h
  exact Kd.C_string hs he hd (Kd.F_now hf)
/-! ### dolmenlaw13_FoldEpochs: function 9 -/
mutual
def dolmenlaw13_FoldEpochs.l0 : Nat → List (S32) → Int → Int → Int → Option (Bool)
  | 0, _, _, _, _ => none
  | k + 1, x0, x1, x5, x6 => if x6 < (x0.length : Int) then (if x6 > 0 then (if 0 ≤ x6 then (if 0 ≤ (wrap64 (x6 - 1)) then (if (wrap64 (x6 - 1)) < (x0.length : Int) then (dolmenlaw13_FoldEpochs.j1 k x0 x1 x5 x6 (decide (((rd_T32 x0 x6).f1) < ((rd_T32 x0 (wrap64 (x6 - 1))).f1)))) else (none)) else (none)) else (none)) else (dolmenlaw13_FoldEpochs.j1 k x0 x1 x5 x6 false)) else ((dolmenlaw13_made.f k x0).bind fun t147 => ((fold_Dir.f k t147 x1).bind fun bt150 => (if 0 ≤ x5 then (if x5 ≤ (t147.length : Int) then ((fold_Dir.f k (t147.take (x5 : Int).toNat) 1099511627776).bind fun bt161 => (if x5 < (x0.length : Int) then (if ((rd_T32 x0 x5).f1) ≤ x1 then (dolmenlaw13_FoldEpochs.j2 k x1 x5 t147 bt150.1 bt150.2 bt161.1 bt161.2 true) else (if x5 > 0 then (if 0 ≤ (wrap64 (x5 - 1)) then (if (wrap64 (x5 - 1)) < (x0.length : Int) then (dolmenlaw13_FoldEpochs.j2 k x1 x5 t147 bt150.1 bt150.2 bt161.1 bt161.2 (decide (((rd_T32 x0 (wrap64 (x5 - 1))).f1) > 1099511627776))) else (none)) else (none)) else (dolmenlaw13_FoldEpochs.j2 k x1 x5 t147 bt150.1 bt150.2 bt161.1 bt161.2 false))) else (if x5 > 0 then (if 0 ≤ (wrap64 (x5 - 1)) then (if (wrap64 (x5 - 1)) < (x0.length : Int) then (dolmenlaw13_FoldEpochs.j2 k x1 x5 t147 bt150.1 bt150.2 bt161.1 bt161.2 (decide (((rd_T32 x0 (wrap64 (x5 - 1))).f1) > 1099511627776))) else (none)) else (none)) else (dolmenlaw13_FoldEpochs.j2 k x1 x5 t147 bt150.1 bt150.2 bt161.1 bt161.2 false)))) else (none)) else (none))))
def dolmenlaw13_FoldEpochs.j1 : Nat → List (S32) → Int → Int → Int → Bool → Option (Bool)
  | 0, _, _, _, _, _ => none
  | k + 1, x0, x1, x5, x6, x37 => if x37 = true then ((dolmenlaw13_awake.f).bind fun t145 => (some t145)) else (if 0 ≤ x6 then (if x6 < (x0.length : Int) then (if ((rd_T32 x0 x6).f1) ≤ x1 then (dolmenlaw13_FoldEpochs.l0 k x0 x1 (wrap64 (x6 + 1)) (wrap64 (x6 + 1))) else (dolmenlaw13_FoldEpochs.l0 k x0 x1 x5 (wrap64 (x6 + 1)))) else (none)) else (none))
def dolmenlaw13_FoldEpochs.j2 : Nat → Int → Int → List (S50) → List ByteArray → List Int → List ByteArray → List Int → Bool → Option (Bool)
  | 0, _, _, _, _, _, _, _, _ => none
  | k + 1, x1, x5, x7, x8, x9, x10, x11, x88 => if x88 = true then ((dolmenlaw13_awake.f).bind fun t170 => (some t170)) else ((fold_File.f k x7 x1).bind fun t171 => (if 0 ≤ x5 then (if x5 ≤ (x7.length : Int) then ((fold_File.f k (x7.take (x5 : Int).toNat) 1099511627776).bind fun t179 => (if (strOfNums t171).toList = (strOfNums t179).toList then ((dolmenref5_Texts.f k x8 x10).bind fun t182 => (if t182 = true then ((dolmenref5_Ints.f k x9 x11).bind fun t183 => (if t183 = true then ((dolmenlaw13_awake.f).bind fun t184 => (some t184)) else (none))) else (none))) else (none))) else (none)) else (none)))
end
def dolmenlaw13_FoldEpochs.f (k : Nat) (l0 : List (S32)) (a1 : Int) : Option (Bool) := (dolmenlaw13_small.f k l0).bind fun t141 => (if t141 = true then (dolmenlaw13_FoldEpochs.l0 k l0 a1 0 0) else ((dolmenlaw13_awake.f).bind fun t142 => (some t142)))
theorem dolmenlaw13_FoldEpochs.mono_l : ∀ k, (∀ y0 y1 y2 y3, LeO (dolmenlaw13_FoldEpochs.l0 k y0 y1 y2 y3) (dolmenlaw13_FoldEpochs.l0 (k + 1) y0 y1 y2 y3)) ∧ (∀ y0 y1 y2 y3 y4, LeO (dolmenlaw13_FoldEpochs.j1 k y0 y1 y2 y3 y4) (dolmenlaw13_FoldEpochs.j1 (k + 1) y0 y1 y2 y3 y4)) ∧ (∀ y0 y1 y2 y3 y4 y5 y6 y7, LeO (dolmenlaw13_FoldEpochs.j2 k y0 y1 y2 y3 y4 y5 y6 y7) (dolmenlaw13_FoldEpochs.j2 (k + 1) y0 y1 y2 y3 y4 y5 y6 y7))
  | 0 => ⟨fun _ _ _ _ r h => by simp [dolmenlaw13_FoldEpochs.l0] at h, fun _ _ _ _ _ r h => by simp [dolmenlaw13_FoldEpochs.j1] at h, fun _ _ _ _ _ _ _ _ r h => by simp [dolmenlaw13_FoldEpochs.j2] at h⟩
  | k + 1 => by
    obtain ⟨ih0, ih1, ih2⟩ := dolmenlaw13_FoldEpochs.mono_l k
    refine ⟨?_, ?_, ?_⟩
    · intro y0 y1 y2 y3
      unfold dolmenlaw13_FoldEpochs.l0
      repeat' first
      | (with_reducible exact ih0 _ _ _ _)
      | (with_reducible exact ih1 _ _ _ _ _)
      | (with_reducible exact ih2 _ _ _ _ _ _ _ _)
      | (with_reducible exact dolmenlaw13_made.mono _ _)
      | (with_reducible exact dolmenlaw13_small.mono _ _)
      | (with_reducible exact dolmenref5_Ints.mono _ _ _)
      | (with_reducible exact dolmenref5_Texts.mono _ _ _)
      | (with_reducible exact fold_Dir.mono _ _ _)
      | (with_reducible exact fold_File.mono _ _ _)
      | (with_reducible exact LeO.refl _)
      | (with_reducible exact LeO.none _)
      | (with_reducible refine LeO.ite ?_ ?_)
      | (with_reducible refine LeO.bind ?_ (fun _ => ?_))
      | exact ih0 _ _ _ _
      | exact ih1 _ _ _ _ _
      | exact ih2 _ _ _ _ _ _ _ _
      | exact dolmenlaw13_made.mono _ _
      | exact dolmenlaw13_small.mono _ _
      | exact dolmenref5_Ints.mono _ _ _
      | exact dolmenref5_Texts.mono _ _ _
      | exact fold_Dir.mono _ _ _
      | exact fold_File.mono _ _ _
      | exact LeO.none _
      | refine LeO.ite ?_ ?_
      | refine LeO.bind ?_ (fun _ => ?_)
    · intro y0 y1 y2 y3 y4
      unfold dolmenlaw13_FoldEpochs.j1
      repeat' first
      | (with_reducible exact ih0 _ _ _ _)
      | (with_reducible exact ih1 _ _ _ _ _)
      | (with_reducible exact ih2 _ _ _ _ _ _ _ _)
      | (with_reducible exact dolmenlaw13_made.mono _ _)
      | (with_reducible exact dolmenlaw13_small.mono _ _)
      | (with_reducible exact dolmenref5_Ints.mono _ _ _)
      | (with_reducible exact dolmenref5_Texts.mono _ _ _)
      | (with_reducible exact fold_Dir.mono _ _ _)
      | (with_reducible exact fold_File.mono _ _ _)
      | (with_reducible exact LeO.refl _)
      | (with_reducible exact LeO.none _)
      | (with_reducible refine LeO.ite ?_ ?_)
      | (with_reducible refine LeO.bind ?_ (fun _ => ?_))
      | exact ih0 _ _ _ _
      | exact ih1 _ _ _ _ _
      | exact ih2 _ _ _ _ _ _ _ _
      | exact dolmenlaw13_made.mono _ _
      | exact dolmenlaw13_small.mono _ _
      | exact dolmenref5_Ints.mono _ _ _
      | exact dolmenref5_Texts.mono _ _ _
      | exact fold_Dir.mono _ _ _
      | exact fold_File.mono _ _ _
      | exact LeO.none _
      | refine LeO.ite ?_ ?_
      | refine LeO.bind ?_ (fun _ => ?_)
    · intro y0 y1 y2 y3 y4 y5 y6 y7
      unfold dolmenlaw13_FoldEpochs.j2
      repeat' first
      | (with_reducible exact ih0 _ _ _ _)
      | (with_reducible exact ih1 _ _ _ _ _)
      | (with_reducible exact ih2 _ _ _ _ _ _ _ _)
      | (with_reducible exact dolmenlaw13_made.mono _ _)
      | (with_reducible exact dolmenlaw13_small.mono _ _)
      | (with_reducible exact dolmenref5_Ints.mono _ _ _)
      | (with_reducible exact dolmenref5_Texts.mono _ _ _)
      | (with_reducible exact fold_Dir.mono _ _ _)
      | (with_reducible exact fold_File.mono _ _ _)
      | (with_reducible exact LeO.refl _)
      | (with_reducible exact LeO.none _)
      | (with_reducible refine LeO.ite ?_ ?_)
      | (with_reducible refine LeO.bind ?_ (fun _ => ?_))
      | exact ih0 _ _ _ _
      | exact ih1 _ _ _ _ _
      | exact ih2 _ _ _ _ _ _ _ _
      | exact dolmenlaw13_made.mono _ _
      | exact dolmenlaw13_small.mono _ _
      | exact dolmenref5_Ints.mono _ _ _
      | exact dolmenref5_Texts.mono _ _ _
      | exact fold_Dir.mono _ _ _
      | exact fold_File.mono _ _ _
      | exact LeO.none _
      | refine LeO.ite ?_ ?_
      | refine LeO.bind ?_ (fun _ => ?_)
theorem dolmenlaw13_FoldEpochs.mono : ∀ a0 a1 k, LeO (dolmenlaw13_FoldEpochs.f k a0 a1) (dolmenlaw13_FoldEpochs.f (k + 1) a0 a1) := by
  intro a0 a1 k
  obtain ⟨ih0, ih1, ih2⟩ := dolmenlaw13_FoldEpochs.mono_l k
  unfold dolmenlaw13_FoldEpochs.f
  repeat' first
      | (with_reducible exact ih0 _ _ _ _)
      | (with_reducible exact ih1 _ _ _ _ _)
      | (with_reducible exact ih2 _ _ _ _ _ _ _ _)
      | (with_reducible exact dolmenlaw13_made.mono _ _)
      | (with_reducible exact dolmenlaw13_small.mono _ _)
      | (with_reducible exact dolmenref5_Ints.mono _ _ _)
      | (with_reducible exact dolmenref5_Texts.mono _ _ _)
      | (with_reducible exact fold_Dir.mono _ _ _)
      | (with_reducible exact fold_File.mono _ _ _)
      | (with_reducible exact LeO.refl _)
      | (with_reducible exact LeO.none _)
      | (with_reducible refine LeO.ite ?_ ?_)
      | (with_reducible refine LeO.bind ?_ (fun _ => ?_))
      | exact ih0 _ _ _ _
      | exact ih1 _ _ _ _ _
      | exact ih2 _ _ _ _ _ _ _ _
      | exact dolmenlaw13_made.mono _ _
      | exact dolmenlaw13_small.mono _ _
      | exact dolmenref5_Ints.mono _ _ _
      | exact dolmenref5_Texts.mono _ _ _
      | exact fold_Dir.mono _ _ _
      | exact fold_File.mono _ _ _
      | exact LeO.none _
      | refine LeO.ite ?_ ?_
      | refine LeO.bind ?_ (fun _ => ?_)
def dolmenlaw13_FoldEpochs.T7 : Bool × List (List Nat × List Nat) := (true, [([], []), ([0], [0]), ([1], [1]), ([2], [2]), ([2], [2]), ([3, 4, 2], [2, 3, 4]), ([5, 2], [2, 5]), ([6, 2], [2, 6]), ([2], [2]), ([2], [2]), ([9, 2], [2, 9]), ([8, 10, 2], [2, 8, 10]), ([11, 2], [2, 11]), ([12, 2], [2, 12]), ([7, 13, 2], [2, 7, 13]), ([2, 14], [2, 14])])
def dolmenlaw13_FoldEpochs.B7 : List Nat := [0, 1, 3, 7, 7, 31, 63, 127, 7, 7, 519, 1799, 3847, 7943, 16383, 32767]
theorem dolmenlaw13_FoldEpochs.tab7 : rtab .any (opsOf Try.f9 7) = dolmenlaw13_FoldEpochs.T7 := by kernel_rfl
theorem dolmenlaw13_FoldEpochs.bits7 : waitsOk dolmenlaw13_FoldEpochs.T7.2 dolmenlaw13_FoldEpochs.B7 = true := by kernel_rfl
def dolmenlaw13_FoldEpochs.T16 : Bool × List (List Nat × List Nat) := (true, [([], []), ([], []), ([0, 1], [0, 1]), ([2], [2]), ([], []), ([], []), ([4, 5], [4, 5]), ([6, 2], [6]), ([7], [7]), ([3, 8], [3, 8]), ([9, 7], [9]), ([10], [10]), ([10], [10]), ([11, 12, 10, 10], [10, 11, 12]), ([10, 13], [10, 13]), ([14, 13], [14]), ([15], [15]), ([15], [15]), ([16, 17, 15, 15], [15, 16, 17]), ([15, 18], [15, 18]), ([19, 18], [19]), ([20, 20], [20]), ([20, 21], [20, 21]), ([22, 21, 0, 1, 2, 3, 4, 5, 6, 7, 8, 9, 10, 11, 12, 13, 14, 15, 16, 17, 18, 19, 20, 21, 22], [22])])
def dolmenlaw13_FoldEpochs.B16 : List Nat := [0, 0, 3, 7, 0, 0, 48, 119, 247, 511, 1023, 2047, 2047, 8191, 16383, 32767, 65535, 65535, 262143, 524287, 1048575, 2097151, 4194303, 8388607]
theorem dolmenlaw13_FoldEpochs.tab16 : rtab .any (opsOf Try.f9 16) = dolmenlaw13_FoldEpochs.T16 := by kernel_rfl
theorem dolmenlaw13_FoldEpochs.bits16 : waitsOk dolmenlaw13_FoldEpochs.T16.2 dolmenlaw13_FoldEpochs.B16 = true := by kernel_rfl
set_option maxHeartbeats 8000000 in
set_option maxRecDepth 100000 in
theorem dolmenlaw13_FoldEpochs.calls (k : Nat) (A0 : Option Addr) (c0 : Nat) (l0 : List (S32)) (a1 : Int) (r : Bool) (w : World) (hr0 : Kd.C k32 w A0 l0.length l0) (hc0 : l0.length ≤ c0) (h : dolmenlaw13_FoldEpochs.f k l0 a1 = some r) :
    Calls Try.prog 9 #[.slice A0 l0.length c0, .int .i64 a1] w fun e w' => e = .returned (.bool r) ∧ Below w.heap.size w w' := by
  have HR0 := Aside0.mk hr0
  have HC0 := Aside0.mk hc0
  clear hr0 hc0
  have HB := Aside0.mk (Below.refl w.heap.size w)
  have H : ((dolmenlaw13_small.f k l0).bind fun t141 => (if t141 = true then (dolmenlaw13_FoldEpochs.l0 k l0 a1 0 0) else ((dolmenlaw13_awake.f).bind fun t142 => (some t142)))) = some r := h
  clear h
  replace H := Option.bind_eq_some_iff.mp H
  obtain ⟨t141, A30, H⟩ := H
  replace H : (if t141 = true then (dolmenlaw13_FoldEpochs.l0 k l0 a1 0 0) else ((dolmenlaw13_awake.f).bind fun t142 => (some t142))) = some r := H
  have A3 := Aside0.mk A30
  clear A30
  by_cases c4 : t141 = true
  · subst c4
    have H1 : (dolmenlaw13_FoldEpochs.l0 k l0 a1 0 0) = some r := by rw [if_pos rfl] at H; exact H
    clear H
    have H := H1
    clear H1
    have H' := Aside0.mk H
    clear H
    go_enter Try.func9, Try.ntmps9
    go_wp2_with (first | ((with_reducible refine gate_callee (f := 13) rfl ?_); refine goesL_ (some 13) rfl rfl Try.func13 (by kernel_rfl) rfl #[.slice A0 l0.length c0] rfl (by (try simp only [List.map_toArray, List.map_cons, List.map_nil]); first | done | rfl | (simp only [List.length_drop, List.length_take]; rfl)) ?_; (with_reducible refine (dolmenlaw13_small.calls k _ _ l0 true _ ?side1 ?side2 A3.out).mono ?_); (case side1 => repeat (first | exact HR0.out | (with_reducible refine Kd.C_alloc ?_ _) | (with_reducible refine Kd.C_drewN ?_ _) | (with_reducible refine Kd.C_drew ?_))); (case side2 => exact HC0.out); rintro e w5 ⟨rfl, hb⟩; refine ⟨_, rfl, ?_⟩; have n0_ := Aside0.mk (below_step (by repeat (first | (with_reducible first | exact HB.out | apply below_alloc | apply pw_below_drewN | apply below_drew1) | exact HB.out)) hb); clear HB; have HB := n0_; clear n0_; (try clear hb); (try clear hb2); (try clear hk); (try clear hi)))
    go_loopg [5, 6] k (fun kq v5 v6 w' => ∃ (x5_1 : Int) (x6_1 : Int), v5 = .int .i64 x5_1 ∧ v6 = .int .i64 x6_1 ∧ Aside0 (dolmenlaw13_FoldEpochs.l0 kq l0 a1 x5_1 x6_1 = some r) ∧ Aside0 (kq ≤ k) ∧ Aside0 (Below w.heap.size w w'))
    case atStart => exact ⟨(0), (0), (by first | rfl | (simp; done) | (simp [*]; done)), (by first | rfl | (simp; done) | (simp [*]; done)), H', ⟨Nat.le_refl _⟩, ⟨by repeat (first | (with_reducible first | exact HB.out | apply below_alloc | apply pw_below_drewN | apply below_drew1) | exact HB.out)⟩⟩
    case round =>
      clear H'
      try clear c1
      try clear p2
      try clear c4
      obtain ⟨x5_1, x6_1, rfl, rfl, HA, HK1, HB⟩ := hrel
      cases gk with
      | zero => exact absurd HA.out (by simp [dolmenlaw13_FoldEpochs.l0])
      | succ k1 =>
        have H := HA.out
        clear HA
        simp only [dolmenlaw13_FoldEpochs.l0] at H
        by_cases c6 : x6_1 < (l0.length : Int)
        · rw [if_pos c6] at H
          have c6b0 : decide (x6_1 < (l0.length : Int)) = true := decide_eq_true c6
          clear c6
          have HC7 := Aside0.mk H
          clear H
          go_upto_region 7 with (fail)
          go_cut [37] (fun v37 wc => ∃ (kq : Nat) (x37_6 : Bool), v37 = .bool x37_6 ∧ Aside0 (dolmenlaw13_FoldEpochs.j1 kq l0 a1 x5_1 x6_1 x37_6 = some r) ∧ Aside0 (kq ≤ k1) ∧ Aside0 (Below w.heap.size w wc))
          case first =>
            have H := HC7.out
            clear HC7
            by_cases c8 : x6_1 > 0
            · rw [if_pos c8] at H
              have c8b0 : decide (0 < x6_1) = true := decide_eq_true c8
              clear c8
              (first | rw [c8b0] | (simp only [i64_w, i32_w]; rw [c8b0]) | skip)
              by_cases c9 : 0 ≤ x6_1
              · rw [if_pos c9] at H
                have c9b0 : decide (0 ≤ x6_1) = true := decide_eq_true c9
                clear c9
                obtain ⟨ji10, hji10⟩ : ∃ j_ : Int, (wrap64 (x6_1 - 1)) = j_ := ⟨_, rfl⟩
                replace H : (if 0 ≤ (ji10) then (if (ji10) < (l0.length : Int) then (dolmenlaw13_FoldEpochs.j1 k1 l0 a1 x5_1 x6_1 (decide (((rd_T32 l0 x6_1).f1) < ((rd_T32 l0 (ji10)).f1)))) else (none)) else (none)) = some r := by first | (rw [hji10] at H; exact H) | (simp only [hji10] at H ⊢; exact H)
                have hji10w : (IntKind.i64.wrap (x6_1 - 1)) = ji10 := (i64_w _).trans hji10
                by_cases c11 : 0 ≤ (ji10)
                · rw [if_pos c11] at H
                  have c11b0 : decide (0 ≤ (ji10)) = true := decide_eq_true c11
                  clear c11
                  by_cases c12 : (ji10) < (l0.length : Int)
                  · rw [if_pos c12] at H
                    have c12b0 : decide ((ji10) < (l0.length : Int)) = true := decide_eq_true c12
                    clear c12
                    have H' := Aside0.mk H
                    clear H
                    try go_wp2
                    have n0_ := Aside0.mk (below_drew1 HB.out)
                    clear HB
                    have HB := n0_
                    clear n0_
                    have p143 : 0 ≤ (x6_1 : Int) := of_decide_eq_true (by first | (with_reducible assumption) | assumption)
                    have q143 : x6_1 < (l0.length : Int) := of_decide_eq_true (by first | (with_reducible assumption) | assumption)
                    obtain ⟨ad143, A143_3, c143_3, e143, hx143_0, hx143_1, hx143_2, hx143_3, hx143_4, hx143_5, hl143_3, hi143_3⟩ := at_T32 HR0.out x6_1 p143 q143
                    have hw143_5 := hx143_5
                    have hw143_4 := hx143_4
                    have hw143_3 := hx143_3
                    have hw143_2 := hx143_2
                    have hw143_1 := hx143_1
                    have hw143_0 := hx143_0
                    cases e143
                    replace hx143_0 := (HB.out.cell (World.block_lt_of_cell? w _ hx143_0)).trans hx143_0
                    replace hx143_1 := (HB.out.cell (World.block_lt_of_cell? w _ hx143_1)).trans hx143_1
                    replace hx143_2 := (HB.out.cell (World.block_lt_of_cell? w _ hx143_2)).trans hx143_2
                    replace hx143_3 := (HB.out.cell (World.block_lt_of_cell? w _ hx143_3)).trans hx143_3
                    replace hx143_4 := (HB.out.cell (World.block_lt_of_cell? w _ hx143_4)).trans hx143_4
                    replace hx143_5 := (HB.out.cell (World.block_lt_of_cell? w _ hx143_5)).trans hx143_5
                    have HR143_3 := Aside0.mk hi143_3
                    have HC143_3 := Aside0.mk hl143_3
                    clear hi143_3 hl143_3
                    replace p143 := eq_true p143
                    replace q143 := eq_true q143
                    have p144 : 0 ≤ ((ji10) : Int) := of_decide_eq_true (by first | (with_reducible assumption) | assumption)
                    have q144 : (ji10) < (l0.length : Int) := of_decide_eq_true (by first | (with_reducible assumption) | assumption)
                    obtain ⟨ad144, A144_3, c144_3, e144, hx144_0, hx144_1, hx144_2, hx144_3, hx144_4, hx144_5, hl144_3, hi144_3⟩ := at_T32 HR0.out (ji10) p144 q144
                    have hw144_5 := hx144_5
                    have hw144_4 := hx144_4
                    have hw144_3 := hx144_3
                    have hw144_2 := hx144_2
                    have hw144_1 := hx144_1
                    have hw144_0 := hx144_0
                    obtain rfl : ad143 = ad144 := (by injection e144)
                    replace hx144_0 := (HB.out.cell (World.block_lt_of_cell? w _ hx144_0)).trans hx144_0
                    replace hx144_1 := (HB.out.cell (World.block_lt_of_cell? w _ hx144_1)).trans hx144_1
                    replace hx144_2 := (HB.out.cell (World.block_lt_of_cell? w _ hx144_2)).trans hx144_2
                    replace hx144_3 := (HB.out.cell (World.block_lt_of_cell? w _ hx144_3)).trans hx144_3
                    replace hx144_4 := (HB.out.cell (World.block_lt_of_cell? w _ hx144_4)).trans hx144_4
                    replace hx144_5 := (HB.out.cell (World.block_lt_of_cell? w _ hx144_5)).trans hx144_5
                    have HR144_3 := Aside0.mk hi144_3
                    have HC144_3 := Aside0.mk hl144_3
                    clear hi144_3 hl144_3
                    replace p144 := eq_true p144
                    replace q144 := eq_true q144
                    refine start_ (n := 16) (S := fun w' => w'.cell? (ad143.add ((x6_1).toNat * 6)) = some (.int .i64 ((rd_T32 l0 x6_1).f0)) ∧ w'.cell? ⟨(ad143.add ((x6_1).toNat * 6)).block, (ad143.add ((x6_1).toNat * 6)).off + 1, none⟩ = some (.int .i64 ((rd_T32 l0 x6_1).f1)) ∧ w'.cell? ⟨(ad143.add ((x6_1).toNat * 6)).block, (ad143.add ((x6_1).toNat * 6)).off + 2, none⟩ = some (.int .i64 ((rd_T32 l0 x6_1).f2)) ∧ w'.cell? ⟨(ad143.add ((x6_1).toNat * 6)).block, (ad143.add ((x6_1).toNat * 6)).off + 3, none⟩ = some (.slice A143_3 ((rd_T32 l0 x6_1).f3).length c143_3) ∧ w'.cell? ⟨(ad143.add ((x6_1).toNat * 6)).block, (ad143.add ((x6_1).toNat * 6)).off + 4, none⟩ = some (.string ((rd_T32 l0 x6_1).f4)) ∧ w'.cell? ⟨(ad143.add ((x6_1).toNat * 6)).block, (ad143.add ((x6_1).toNat * 6)).off + 5, none⟩ = some (.int .i64 ((rd_T32 l0 x6_1).f5)) ∧ w'.cell? (ad143.add (((ji10)).toNat * 6)) = some (.int .i64 ((rd_T32 l0 (ji10)).f0)) ∧ w'.cell? ⟨(ad143.add (((ji10)).toNat * 6)).block, (ad143.add (((ji10)).toNat * 6)).off + 1, none⟩ = some (.int .i64 ((rd_T32 l0 (ji10)).f1)) ∧ w'.cell? ⟨(ad143.add (((ji10)).toNat * 6)).block, (ad143.add (((ji10)).toNat * 6)).off + 2, none⟩ = some (.int .i64 ((rd_T32 l0 (ji10)).f2)) ∧ w'.cell? ⟨(ad143.add (((ji10)).toNat * 6)).block, (ad143.add (((ji10)).toNat * 6)).off + 3, none⟩ = some (.slice A144_3 ((rd_T32 l0 (ji10)).f3).length c144_3) ∧ w'.cell? ⟨(ad143.add (((ji10)).toNat * 6)).block, (ad143.add (((ji10)).toNat * 6)).off + 4, none⟩ = some (.string ((rd_T32 l0 (ji10)).f4)) ∧ w'.cell? ⟨(ad143.add (((ji10)).toNat * 6)).block, (ad143.add (((ji10)).toNat * 6)).off + 5, none⟩ = some (.int .i64 ((rd_T32 l0 (ji10)).f5))) (ds := []) #[false, false, false, false, false, false, false, false, false, false, false, false, false, false, false, false] (by kernel_rfl) rfl rfl ⟨((HB.out.cell (World.block_lt_of_cell? w _ hw143_0)).trans hw143_0), ((HB.out.cell (World.block_lt_of_cell? w _ hw143_1)).trans hw143_1), ((HB.out.cell (World.block_lt_of_cell? w _ hw143_2)).trans hw143_2), ((HB.out.cell (World.block_lt_of_cell? w _ hw143_3)).trans hw143_3), ((HB.out.cell (World.block_lt_of_cell? w _ hw143_4)).trans hw143_4), ((HB.out.cell (World.block_lt_of_cell? w _ hw143_5)).trans hw143_5), ((HB.out.cell (World.block_lt_of_cell? w _ hw144_0)).trans hw144_0), ((HB.out.cell (World.block_lt_of_cell? w _ hw144_1)).trans hw144_1), ((HB.out.cell (World.block_lt_of_cell? w _ hw144_2)).trans hw144_2), ((HB.out.cell (World.block_lt_of_cell? w _ hw144_3)).trans hw144_3), ((HB.out.cell (World.block_lt_of_cell? w _ hw144_4)).trans hw144_4), ((HB.out.cell (World.block_lt_of_cell? w _ hw144_5)).trans hw144_5)⟩ (fun hHeld => ?_); refine with_tabW dolmenlaw13_FoldEpochs.tab7 dolmenlaw13_FoldEpochs.bits7 (fun HT_ HW_ => ?_)
                    generalize wr.drew = w13 at HB HR143_3 HR144_3 hx143_0 hx143_1 hx143_2 hx143_3 hx143_4 hx143_5 hx144_0 hx144_1 hx144_2 hx144_3 hx144_4 hx144_5 hHeld ⊢
                    refine pure_ (i := 0) (N := some 22) (v := ?_) (a' := ?_) #[true, false, false, false, false, false, false, false, false, false, false, false, false, false, false, false] rfl rfl (any_of HT_.out (by kernel_rfl)) (fun _ _ _ h => h) (Or.inl ⟨by rfl, ?_⟩) ?_ ?_
                    rotate_left
                    · intro w'
                      go_simp
                      with_reducible rfl
                    rotate_left
                    · simp only [Act.put, List.setIfInBounds_toArray, List.set_cons_zero, List.set_cons_succ, i64_w, i32_w]
                      rfl
                    refine pure_ (i := 1) (N := some 23) (v := ?_) (a' := ?_) #[true, true, false, false, false, false, false, false, false, false, false, false, false, false, false, false] rfl rfl (any_of HT_.out (by kernel_rfl)) (fun _ _ _ h => h) (Or.inl ⟨by rfl, ?_⟩) ?_ ?_
                    rotate_left
                    · intro w'
                      go_simp
                      with_reducible rfl
                    rotate_left
                    · simp only [Act.put, List.setIfInBounds_toArray, List.set_cons_zero, List.set_cons_succ, i64_w, i32_w]
                      rfl
                    refine pure_ (i := 2) (N := some 24) (v := ?_) (a' := ?_) #[true, true, true, false, false, false, false, false, false, false, false, false, false, false, false, false] rfl rfl (any_of HT_.out (by kernel_rfl)) (fun _ _ _ h => h) (Or.inl ⟨by rfl, ?_⟩) ?_ ?_
                    rotate_left
                    · intro w'
                      go_simp
                      with_reducible rfl
                    rotate_left
                    · simp only [Act.put, List.setIfInBounds_toArray, List.set_cons_zero, List.set_cons_succ, i64_w, i32_w]
                      rfl
                    refine pure_ (i := 3) (N := some 25) (v := ?_) (a' := ?_) #[true, true, true, true, false, false, false, false, false, false, false, false, false, false, false, false] rfl rfl (any_of HT_.out (by kernel_rfl)) (fun _ _ _ h => h) (Or.inl ⟨by rfl, ?_⟩) ?_ ?_
                    rotate_left
                    · intro w'
                      go_simp
                      with_reducible rfl
                    rotate_left
                    · simp only [Act.put, List.setIfInBounds_toArray, List.set_cons_zero, List.set_cons_succ, i64_w, i32_w]
                      rfl
                    refine pure_ (i := 4) (N := some 26) (v := ?_) (a' := ?_) #[true, true, true, true, true, false, false, false, false, false, false, false, false, false, false, false] rfl rfl (any_of HT_.out (by kernel_rfl)) (fun _ _ _ h => h) (Or.inl ⟨by rfl, ?_⟩) ?_ ?_
                    rotate_left
                    · intro w'
                      go_simp
                      with_reducible rfl
                    rotate_left
                    · simp only [Act.put, List.setIfInBounds_toArray, List.set_cons_zero, List.set_cons_succ, i64_w, i32_w]
                      rfl
                    refine pure_ (i := 5) (N := some 27) (v := ?_) (a' := ?_) #[true, true, true, true, true, true, false, false, false, false, false, false, false, false, false, false] rfl rfl (any_of HT_.out (by kernel_rfl)) (fun _ _ _ h => h) (Or.inl ⟨by rfl, ?_⟩) ?_ ?_
                    rotate_left
                    · intro w'
                      go_simp
                      with_reducible rfl
                    rotate_left
                    · simp only [Act.put, List.setIfInBounds_toArray, List.set_cons_zero, List.set_cons_succ, i64_w, i32_w]
                      rfl
                    refine pure_ (i := 6) (N := some 28) (v := ?_) (a' := ?_) #[true, true, true, true, true, true, true, false, false, false, false, false, false, false, false, false] rfl rfl (any_of HT_.out (by kernel_rfl)) (fun _ _ _ h => h) (Or.inl ⟨by rfl, ?_⟩) ?_ ?_
                    rotate_left
                    · intro w'
                      go_simp
                      with_reducible rfl
                    rotate_left
                    · simp only [Act.put, List.setIfInBounds_toArray, List.set_cons_zero, List.set_cons_succ, i64_w, i32_w]
                      rfl
                    refine pure_ (i := 8) (N := some 30) (v := ?_) (a' := ?_) #[true, true, true, true, true, true, true, false, true, false, false, false, false, false, false, false] rfl rfl (any_of HT_.out (by kernel_rfl)) (fun _ _ _ h => h) (Or.inl ⟨by rfl, ?_⟩) ?_ ?_
                    rotate_left
                    · intro w'
                      go_simp
                      with_reducible rfl
                    rotate_left
                    · simp only [Act.put, List.setIfInBounds_toArray, List.set_cons_zero, List.set_cons_succ, i64_w, i32_w]
                      rfl
                    refine pure_ (i := 9) (N := some 31) (v := ?_) (a' := ?_) #[true, true, true, true, true, true, true, false, true, true, false, false, false, false, false, false] rfl rfl (any_of HT_.out (by kernel_rfl)) (fun _ _ _ h => h) (Or.inl ⟨by rfl, ?_⟩) ?_ ?_
                    rotate_left
                    · intro w'
                      go_simp
                      with_reducible rfl
                    rotate_left
                    · simp only [Act.put, List.setIfInBounds_toArray, List.set_cons_zero, List.set_cons_succ, i64_w, i32_w]
                      rfl
                    refine pure_ (i := 10) (N := some 32) (v := ?_) (a' := ?_) #[true, true, true, true, true, true, true, false, true, true, true, false, false, false, false, false] rfl rfl (any_of HT_.out (by kernel_rfl)) (fun _ _ _ h => h) (Or.inl ⟨by rfl, ?_⟩) ?_ ?_
                    rotate_left
                    · intro w'
                      go_simp
                      with_reducible rfl
                    rotate_left
                    · simp only [Act.put, List.setIfInBounds_toArray, List.set_cons_zero, List.set_cons_succ, i64_w, i32_w]
                      rfl
                    refine pure_ (i := 11) (N := some 33) (v := ?_) (a' := ?_) #[true, true, true, true, true, true, true, false, true, true, true, true, false, false, false, false] rfl rfl (any_of HT_.out (by kernel_rfl)) (fun _ _ _ h => h) (Or.inl ⟨by rfl, ?_⟩) ?_ ?_
                    rotate_left
                    · intro w'
                      go_simp
                      with_reducible rfl
                    rotate_left
                    · simp only [Act.put, List.setIfInBounds_toArray, List.set_cons_zero, List.set_cons_succ, i64_w, i32_w]
                      rfl
                    refine pure_ (i := 12) (N := some 34) (v := ?_) (a' := ?_) #[true, true, true, true, true, true, true, false, true, true, true, true, true, false, false, false] rfl rfl (any_of HT_.out (by kernel_rfl)) (fun _ _ _ h => h) (Or.inl ⟨by rfl, ?_⟩) ?_ ?_
                    rotate_left
                    · intro w'
                      go_simp
                      with_reducible rfl
                    rotate_left
                    · simp only [Act.put, List.setIfInBounds_toArray, List.set_cons_zero, List.set_cons_succ, i64_w, i32_w]
                      rfl
                    refine take_ (i := 7) (N := some 29) (v := ?_) (a' := ?_) #[true, true, true, true, true, true, true, true, true, true, true, true, true, false, false, false] rfl rfl (take_ofW HT_.out HW_.out (by kernel_rfl)) (fun _ _ _ h => h) (Or.inl ⟨by rfl, ?_⟩) hHeld ?_ ?_
                    rotate_left
                    · rintro w' ⟨s0, s1, s2, s3, s4, s5, s6, s7, s8, s9, s10, s11⟩
                      go_simp
                      with_reducible rfl
                    rotate_left
                    · simp only [Act.put, List.setIfInBounds_toArray, List.set_cons_zero, List.set_cons_succ, i64_w, i32_w]
                      rfl
                    refine take_ (i := 13) (N := some 35) (v := ?_) (a' := ?_) #[true, true, true, true, true, true, true, true, true, true, true, true, true, true, false, false] rfl rfl (take_ofW HT_.out HW_.out (by kernel_rfl)) (fun _ _ _ h => h) (Or.inl ⟨by rfl, ?_⟩) hHeld ?_ ?_
                    rotate_left
                    · rintro w' ⟨s0, s1, s2, s3, s4, s5, s6, s7, s8, s9, s10, s11⟩
                      go_simp
                      with_reducible rfl
                    rotate_left
                    · simp only [Act.put, List.setIfInBounds_toArray, List.set_cons_zero, List.set_cons_succ, i64_w, i32_w]
                      rfl
                    refine pure_ (i := 14) (N := some 36) (v := ?_) (a' := ?_) #[true, true, true, true, true, true, true, true, true, true, true, true, true, true, true, false] rfl rfl (any_of HT_.out (by kernel_rfl)) (fun _ _ _ h => h) (Or.inl ⟨by rfl, ?_⟩) ?_ ?_
                    rotate_left
                    · intro w'
                      go_simp
                      with_reducible rfl
                    rotate_left
                    · simp only [Act.put, List.setIfInBounds_toArray, List.set_cons_zero, List.set_cons_succ, i64_w, i32_w]
                      rfl
                    refine pure_ (i := 15) (N := some 37) (v := ?_) (a' := ?_) #[true, true, true, true, true, true, true, true, true, true, true, true, true, true, true, true] rfl rfl (any_of HT_.out (by kernel_rfl)) (fun _ _ _ h => h) (Or.inl ⟨by rfl, ?_⟩) ?_ ?_
                    rotate_left
                    · intro w'
                      go_simp
                      with_reducible rfl
                    rotate_left
                    · simp only [Act.put, List.setIfInBounds_toArray, List.set_cons_zero, List.set_cons_succ, i64_w, i32_w]
                      rfl
                    refine done_ (done_of HT_.out (by kernel_rfl)) ?_
                    try go_wp2
                    go_meet
                    case rel => exact ⟨_, (decide (((rd_T32 l0 x6_1).f1) < ((rd_T32 l0 (ji10)).f1))), (by first | rfl | (simp; done) | (simp only [← hji10] <;> (first | rfl | simp)) | (simp [*]; done)), H', ⟨by have := HK1.out; first | omega | exact Nat.le_refl _⟩, ⟨by repeat (first | (with_reducible first | exact HB.out | apply below_alloc | apply pw_below_drewN | apply below_drew1) | exact HB.out)⟩⟩
                  · rw [if_neg c12] at H
                    exact absurd H (by simp)
                · rw [if_neg c11] at H
                  exact absurd H (by simp)
              · rw [if_neg c9] at H
                exact absurd H (by simp)
            · rw [if_neg c8] at H
              have c8b0 : decide (0 < x6_1) = false := decide_eq_false c8
              clear c8
              (first | rw [c8b0] | (simp only [i64_w, i32_w]; rw [c8b0]) | skip)
              have H' := Aside0.mk H
              clear H
              try go_wp2
              have n0_ := Aside0.mk (below_drew1 HB.out)
              clear HB
              have HB := n0_
              clear n0_
              refine start_ (n := 16) (S := fun w' => True) (ds := []) #[false, false, false, false, false, false, false, false, false, false, false, false, false, false, false, false] (by kernel_rfl) rfl rfl trivial (fun hHeld => ?_); refine with_tabW dolmenlaw13_FoldEpochs.tab7 dolmenlaw13_FoldEpochs.bits7 (fun HT_ HW_ => ?_)
              generalize wr.drew = w14 at HB hHeld ⊢
              refine pure_ (i := 0) (N := some 22) (v := ?_) (a' := ?_) #[true, false, false, false, false, false, false, false, false, false, false, false, false, false, false, false] rfl rfl (any_of HT_.out (by kernel_rfl)) (fun _ _ _ h => h) (Or.inl ⟨by rfl, ?_⟩) ?_ ?_
              rotate_left
              · intro w'
                go_simp
                with_reducible rfl
              rotate_left
              · simp only [Act.put, List.setIfInBounds_toArray, List.set_cons_zero, List.set_cons_succ, i64_w, i32_w]
                rfl
              refine pure_ (i := 1) (N := some 23) (v := ?_) (a' := ?_) #[true, true, false, false, false, false, false, false, false, false, false, false, false, false, false, false] rfl rfl (any_of HT_.out (by kernel_rfl)) (fun _ _ _ h => h) (Or.inl ⟨by rfl, ?_⟩) ?_ ?_
              rotate_left
              · intro w'
                go_simp
                with_reducible rfl
              rotate_left
              · simp only [Act.put, List.setIfInBounds_toArray, List.set_cons_zero, List.set_cons_succ, i64_w, i32_w]
                rfl
              refine pure_ (i := 2) (N := some 24) (v := ?_) (a' := ?_) #[true, true, true, false, false, false, false, false, false, false, false, false, false, false, false, false] rfl rfl (any_of HT_.out (by kernel_rfl)) (fun _ _ _ h => h) (Or.inl ⟨by rfl, ?_⟩) ?_ ?_
              rotate_left
              · intro w'
                go_simp
                with_reducible rfl
              rotate_left
              · simp only [Act.put, List.setIfInBounds_toArray, List.set_cons_zero, List.set_cons_succ, i64_w, i32_w]
                rfl
              refine pure_ (i := 3) (N := some 25) (v := undef) (a' := ?_) #[true, true, true, true, false, false, false, false, false, false, false, false, false, false, false, false] rfl rfl (any_of HT_.out (by kernel_rfl)) (fun _ _ _ h => h) (Or.inr ⟨by rfl, rfl⟩) ?_ ?_
              rotate_left
              · simp only [Act.put, List.setIfInBounds_toArray, List.set_cons_zero, List.set_cons_succ, i64_w, i32_w]
                rfl
              refine pure_ (i := 4) (N := some 26) (v := undef) (a' := ?_) #[true, true, true, true, true, false, false, false, false, false, false, false, false, false, false, false] rfl rfl (any_of HT_.out (by kernel_rfl)) (fun _ _ _ h => h) (Or.inr ⟨by rfl, rfl⟩) ?_ ?_
              rotate_left
              · simp only [Act.put, List.setIfInBounds_toArray, List.set_cons_zero, List.set_cons_succ, i64_w, i32_w]
                rfl
              refine pure_ (i := 5) (N := some 27) (v := undef) (a' := ?_) #[true, true, true, true, true, true, false, false, false, false, false, false, false, false, false, false] rfl rfl (any_of HT_.out (by kernel_rfl)) (fun _ _ _ h => h) (Or.inr ⟨by rfl, rfl⟩) ?_ ?_
              rotate_left
              · simp only [Act.put, List.setIfInBounds_toArray, List.set_cons_zero, List.set_cons_succ, i64_w, i32_w]
                rfl
              refine pure_ (i := 6) (N := some 28) (v := undef) (a' := ?_) #[true, true, true, true, true, true, true, false, false, false, false, false, false, false, false, false] rfl rfl (any_of HT_.out (by kernel_rfl)) (fun _ _ _ h => h) (Or.inr ⟨by rfl, rfl⟩) ?_ ?_
              rotate_left
              · simp only [Act.put, List.setIfInBounds_toArray, List.set_cons_zero, List.set_cons_succ, i64_w, i32_w]
                rfl
              refine pure_ (i := 7) (N := some 29) (v := undef) (a' := ?_) #[true, true, true, true, true, true, true, true, false, false, false, false, false, false, false, false] rfl rfl (any_of HT_.out (by kernel_rfl)) (fun _ _ _ h => h) (Or.inr ⟨by rfl, rfl⟩) ?_ ?_
              rotate_left
              · simp only [Act.put, List.setIfInBounds_toArray, List.set_cons_zero, List.set_cons_succ, i64_w, i32_w]
                rfl
              refine pure_ (i := 8) (N := some 30) (v := undef) (a' := ?_) #[true, true, true, true, true, true, true, true, true, false, false, false, false, false, false, false] rfl rfl (any_of HT_.out (by kernel_rfl)) (fun _ _ _ h => h) (Or.inr ⟨by rfl, rfl⟩) ?_ ?_
              rotate_left
              · simp only [Act.put, List.setIfInBounds_toArray, List.set_cons_zero, List.set_cons_succ, i64_w, i32_w]
                rfl
              refine pure_ (i := 9) (N := some 31) (v := undef) (a' := ?_) #[true, true, true, true, true, true, true, true, true, true, false, false, false, false, false, false] rfl rfl (any_of HT_.out (by kernel_rfl)) (fun _ _ _ h => h) (Or.inr ⟨by rfl, rfl⟩) ?_ ?_
              rotate_left
              · simp only [Act.put, List.setIfInBounds_toArray, List.set_cons_zero, List.set_cons_succ, i64_w, i32_w]
                rfl
              refine pure_ (i := 10) (N := some 32) (v := undef) (a' := ?_) #[true, true, true, true, true, true, true, true, true, true, true, false, false, false, false, false] rfl rfl (any_of HT_.out (by kernel_rfl)) (fun _ _ _ h => h) (Or.inr ⟨by rfl, rfl⟩) ?_ ?_
              rotate_left
              · simp only [Act.put, List.setIfInBounds_toArray, List.set_cons_zero, List.set_cons_succ, i64_w, i32_w]
                rfl
              refine pure_ (i := 11) (N := some 33) (v := undef) (a' := ?_) #[true, true, true, true, true, true, true, true, true, true, true, true, false, false, false, false] rfl rfl (any_of HT_.out (by kernel_rfl)) (fun _ _ _ h => h) (Or.inr ⟨by rfl, rfl⟩) ?_ ?_
              rotate_left
              · simp only [Act.put, List.setIfInBounds_toArray, List.set_cons_zero, List.set_cons_succ, i64_w, i32_w]
                rfl
              refine pure_ (i := 12) (N := some 34) (v := undef) (a' := ?_) #[true, true, true, true, true, true, true, true, true, true, true, true, true, false, false, false] rfl rfl (any_of HT_.out (by kernel_rfl)) (fun _ _ _ h => h) (Or.inr ⟨by rfl, rfl⟩) ?_ ?_
              rotate_left
              · simp only [Act.put, List.setIfInBounds_toArray, List.set_cons_zero, List.set_cons_succ, i64_w, i32_w]
                rfl
              refine pure_ (i := 13) (N := some 35) (v := undef) (a' := ?_) #[true, true, true, true, true, true, true, true, true, true, true, true, true, true, false, false] rfl rfl (any_of HT_.out (by kernel_rfl)) (fun _ _ _ h => h) (Or.inr ⟨by rfl, rfl⟩) ?_ ?_
              rotate_left
              · simp only [Act.put, List.setIfInBounds_toArray, List.set_cons_zero, List.set_cons_succ, i64_w, i32_w]
                rfl
              refine pure_ (i := 14) (N := some 36) (v := undef) (a' := ?_) #[true, true, true, true, true, true, true, true, true, true, true, true, true, true, true, false] rfl rfl (any_of HT_.out (by kernel_rfl)) (fun _ _ _ h => h) (Or.inr ⟨by rfl, rfl⟩) ?_ ?_
              rotate_left
              · simp only [Act.put, List.setIfInBounds_toArray, List.set_cons_zero, List.set_cons_succ, i64_w, i32_w]
                rfl
              refine pure_ (i := 15) (N := some 37) (v := ?_) (a' := ?_) #[true, true, true, true, true, true, true, true, true, true, true, true, true, true, true, true] rfl rfl (any_of HT_.out (by kernel_rfl)) (fun _ _ _ h => h) (Or.inl ⟨by rfl, ?_⟩) ?_ ?_
              rotate_left
              · intro w'
                go_simp
                with_reducible rfl
              rotate_left
              · simp only [Act.put, List.setIfInBounds_toArray, List.set_cons_zero, List.set_cons_succ, i64_w, i32_w]
                rfl
              refine done_ (done_of HT_.out (by kernel_rfl)) ?_
              try go_wp2
              go_meet
              case rel => exact ⟨_, (false), (by first | rfl | (simp; done) | (simp [*]; done)), H', ⟨by have := HK1.out; first | omega | exact Nat.le_refl _⟩, ⟨by repeat (first | (with_reducible first | exact HB.out | apply below_alloc | apply pw_below_drewN | apply below_drew1) | exact HB.out)⟩⟩
          case rest =>
            clear HC7
            try clear c1
            try clear p1
            try clear q1
            try clear hx1
            try clear p2
            try clear c4
            try clear c6
            try clear c6b0
            try clear p6
            try clear c8
            try clear c8b0
            try clear c9
            try clear c9b0
            try clear c11
            try clear c11b0
            try clear c12
            try clear c12b0
            try clear c13
            try clear c14
            try clear p14
            try clear q14
            try clear hx14
            try clear hx143_0
            try clear hx143_1
            try clear hx143_2
            try clear hx143_3
            try clear hx143_4
            try clear hx143_5
            try clear hx144_0
            try clear hx144_1
            try clear hx144_2
            try clear hx144_3
            try clear hx144_4
            try clear hx144_5
            try clear p143
            try clear p144
            try clear p2
            try clear q143
            try clear q144
            obtain ⟨kq, x37_6, rfl, HA, HJ6, HB⟩ := hcut
            cases kq with
            | zero => exact absurd HA.out (by simp [dolmenlaw13_FoldEpochs.j1])
            | succ kj6 =>
              have H := HA.out
              clear HA
              simp only [dolmenlaw13_FoldEpochs.j1] at H
              by_cases c15 : x37_6 = true
              · subst c15
                have H1 : ((dolmenlaw13_awake.f).bind fun t145 => (some t145)) = some r := by rw [if_pos rfl] at H; exact H
                clear H
                have H := H1
                clear H1
                replace H := Option.bind_eq_some_iff.mp H
                obtain ⟨t145, A160, H⟩ := H
                replace H : (some t145) = some r := H
                have A16 := Aside0.mk A160
                clear A160
                obtain rfl := Option.some.inj H
                go_wp2_with (first | ((with_reducible refine gate_callee (f := 14) rfl ?_); refine goesL_ (some 38) rfl rfl Try.func14 (by kernel_rfl) rfl #[] rfl (by (try simp only [List.map_toArray, List.map_cons, List.map_nil]); first | done | rfl | (simp only [List.length_drop, List.length_take]; rfl)) ?_; (with_reducible refine (dolmenlaw13_awake.calls  t145 _ A16.out).mono ?_); rintro e w17 ⟨rfl, hb⟩; refine ⟨_, rfl, ?_⟩; have n0_ := Aside0.mk (below_step (by repeat (first | (with_reducible first | exact HB.out | apply below_alloc | apply pw_below_drewN | apply below_drew1) | exact HB.out)) hb); clear HB; have HB := n0_; clear n0_; (try clear hb); (try clear hb2); (try clear hk); (try clear hi)))
                go_ret
                exact ⟨by first | rfl | (simp [errW_none, errW_some] <;> rfl) | (simp [*, errW_none, errW_some] <;> rfl), by repeat (first | (with_reducible first | exact HB.out | apply below_alloc | apply pw_below_drewN | apply below_drew1) | exact HB.out)⟩
              · replace c15 := Bool.eq_false_iff.mpr c15
                subst c15
                have H1 : (if 0 ≤ x6_1 then (if x6_1 < (l0.length : Int) then (if ((rd_T32 l0 x6_1).f1) ≤ a1 then (dolmenlaw13_FoldEpochs.l0 kj6 l0 a1 (wrap64 (x6_1 + 1)) (wrap64 (x6_1 + 1))) else (dolmenlaw13_FoldEpochs.l0 kj6 l0 a1 x5_1 (wrap64 (x6_1 + 1)))) else (none)) else (none)) = some r := by rw [if_neg (show ¬ (false = true) by decide)] at H; exact H
                clear H
                have H := H1
                clear H1
                by_cases c18 : 0 ≤ x6_1
                · rw [if_pos c18] at H
                  have c18b0 : decide (0 ≤ x6_1) = true := decide_eq_true c18
                  clear c18
                  by_cases c19 : x6_1 < (l0.length : Int)
                  · rw [if_pos c19] at H
                    have c19b0 : decide (x6_1 < (l0.length : Int)) = true := decide_eq_true c19
                    clear c19
                    by_cases c20 : ((rd_T32 l0 x6_1).f1) ≤ a1
                    · rw [if_pos c20] at H
                      have c20b0 : decide (((rd_T32 l0 x6_1).f1) ≤ a1) = true := decide_eq_true c20
                      clear c20
                      have H' := Aside0.mk H
                      clear H
                      have p146 : 0 ≤ (x6_1 : Int) := of_decide_eq_true (by first | (with_reducible assumption) | assumption)
                      have q146 : x6_1 < (l0.length : Int) := of_decide_eq_true (by first | (with_reducible assumption) | assumption)
                      obtain ⟨ad146, A146_3, c146_3, e146, hx146_0, hx146_1, hx146_2, hx146_3, hx146_4, hx146_5, hl146_3, hi146_3⟩ := at_T32 HR0.out x6_1 p146 q146
                      cases e146
                      replace hx146_0 := (HB.out.cell (World.block_lt_of_cell? w _ hx146_0)).trans hx146_0
                      replace hx146_1 := (HB.out.cell (World.block_lt_of_cell? w _ hx146_1)).trans hx146_1
                      replace hx146_2 := (HB.out.cell (World.block_lt_of_cell? w _ hx146_2)).trans hx146_2
                      replace hx146_3 := (HB.out.cell (World.block_lt_of_cell? w _ hx146_3)).trans hx146_3
                      replace hx146_4 := (HB.out.cell (World.block_lt_of_cell? w _ hx146_4)).trans hx146_4
                      replace hx146_5 := (HB.out.cell (World.block_lt_of_cell? w _ hx146_5)).trans hx146_5
                      have HR146_3 := Aside0.mk hi146_3
                      have HC146_3 := Aside0.mk hl146_3
                      clear hi146_3 hl146_3
                      replace p146 := eq_true p146
                      replace q146 := eq_true q146
                      go_wp2
                      go_roundg kj6
                      case measure => have := HK1.out; have := HJ6.out; omega
                      case rel => exact ⟨(wrap64 (x6_1 + 1)), (wrap64 (x6_1 + 1)), (by first | rfl | (simp; done) | (simp [*]; done)), (by first | rfl | (simp; done) | (simp [*]; done)), H', ⟨by have := HK1.out; have := HJ6.out; omega⟩, ⟨by repeat (first | (with_reducible first | exact HB.out | apply below_alloc | apply pw_below_drewN | apply below_drew1) | exact HB.out)⟩⟩
                    · rw [if_neg c20] at H
                      have c20b0 : decide (((rd_T32 l0 x6_1).f1) ≤ a1) = false := decide_eq_false c20
                      clear c20
                      have H' := Aside0.mk H
                      clear H
                      have p146 : 0 ≤ (x6_1 : Int) := of_decide_eq_true (by first | (with_reducible assumption) | assumption)
                      have q146 : x6_1 < (l0.length : Int) := of_decide_eq_true (by first | (with_reducible assumption) | assumption)
                      obtain ⟨ad146, A146_3, c146_3, e146, hx146_0, hx146_1, hx146_2, hx146_3, hx146_4, hx146_5, hl146_3, hi146_3⟩ := at_T32 HR0.out x6_1 p146 q146
                      cases e146
                      replace hx146_0 := (HB.out.cell (World.block_lt_of_cell? w _ hx146_0)).trans hx146_0
                      replace hx146_1 := (HB.out.cell (World.block_lt_of_cell? w _ hx146_1)).trans hx146_1
                      replace hx146_2 := (HB.out.cell (World.block_lt_of_cell? w _ hx146_2)).trans hx146_2
                      replace hx146_3 := (HB.out.cell (World.block_lt_of_cell? w _ hx146_3)).trans hx146_3
                      replace hx146_4 := (HB.out.cell (World.block_lt_of_cell? w _ hx146_4)).trans hx146_4
                      replace hx146_5 := (HB.out.cell (World.block_lt_of_cell? w _ hx146_5)).trans hx146_5
                      have HR146_3 := Aside0.mk hi146_3
                      have HC146_3 := Aside0.mk hl146_3
                      clear hi146_3 hl146_3
                      replace p146 := eq_true p146
                      replace q146 := eq_true q146
                      go_wp2
                      go_roundg kj6
                      case measure => have := HK1.out; have := HJ6.out; omega
                      case rel => exact ⟨(x5_1), (wrap64 (x6_1 + 1)), (by first | rfl | (simp; done) | (simp [*]; done)), (by first | rfl | (simp; done) | (simp [*]; done)), H', ⟨by have := HK1.out; have := HJ6.out; omega⟩, ⟨by repeat (first | (with_reducible first | exact HB.out | apply below_alloc | apply pw_below_drewN | apply below_drew1) | exact HB.out)⟩⟩
                  · rw [if_neg c19] at H
                    exact absurd H (by simp)
                · rw [if_neg c18] at H
                  exact absurd H (by simp)
        · rw [if_neg c6] at H
          have c6b0 : decide (x6_1 < (l0.length : Int)) = false := decide_eq_false c6
          clear c6
          replace H := Option.bind_eq_some_iff.mp H
          obtain ⟨t147, A210, H⟩ := H
          replace H : ((fold_Dir.f k1 t147 a1).bind fun bt150 => (if 0 ≤ x5_1 then (if x5_1 ≤ (t147.length : Int) then ((fold_Dir.f k1 (t147.take (x5_1 : Int).toNat) 1099511627776).bind fun bt161 => (if x5_1 < (l0.length : Int) then (if ((rd_T32 l0 x5_1).f1) ≤ a1 then (dolmenlaw13_FoldEpochs.j2 k1 a1 x5_1 t147 bt150.1 bt150.2 bt161.1 bt161.2 true) else (if x5_1 > 0 then (if 0 ≤ (wrap64 (x5_1 - 1)) then (if (wrap64 (x5_1 - 1)) < (l0.length : Int) then (dolmenlaw13_FoldEpochs.j2 k1 a1 x5_1 t147 bt150.1 bt150.2 bt161.1 bt161.2 (decide (((rd_T32 l0 (wrap64 (x5_1 - 1))).f1) > 1099511627776))) else (none)) else (none)) else (dolmenlaw13_FoldEpochs.j2 k1 a1 x5_1 t147 bt150.1 bt150.2 bt161.1 bt161.2 false))) else (if x5_1 > 0 then (if 0 ≤ (wrap64 (x5_1 - 1)) then (if (wrap64 (x5_1 - 1)) < (l0.length : Int) then (dolmenlaw13_FoldEpochs.j2 k1 a1 x5_1 t147 bt150.1 bt150.2 bt161.1 bt161.2 (decide (((rd_T32 l0 (wrap64 (x5_1 - 1))).f1) > 1099511627776))) else (none)) else (none)) else (dolmenlaw13_FoldEpochs.j2 k1 a1 x5_1 t147 bt150.1 bt150.2 bt161.1 bt161.2 false)))) else (none)) else (none))) = some r := H
          have A21 := Aside0.mk A210
          clear A210
          replace H := Option.bind_eq_some_iff.mp H
          obtain ⟨⟨t150, t151⟩, A220, H⟩ := H
          replace H : (if 0 ≤ x5_1 then (if x5_1 ≤ (t147.length : Int) then ((fold_Dir.f k1 (t147.take (x5_1 : Int).toNat) 1099511627776).bind fun bt161 => (if x5_1 < (l0.length : Int) then (if ((rd_T32 l0 x5_1).f1) ≤ a1 then (dolmenlaw13_FoldEpochs.j2 k1 a1 x5_1 t147 t150 t151 bt161.1 bt161.2 true) else (if x5_1 > 0 then (if 0 ≤ (wrap64 (x5_1 - 1)) then (if (wrap64 (x5_1 - 1)) < (l0.length : Int) then (dolmenlaw13_FoldEpochs.j2 k1 a1 x5_1 t147 t150 t151 bt161.1 bt161.2 (decide (((rd_T32 l0 (wrap64 (x5_1 - 1))).f1) > 1099511627776))) else (none)) else (none)) else (dolmenlaw13_FoldEpochs.j2 k1 a1 x5_1 t147 t150 t151 bt161.1 bt161.2 false))) else (if x5_1 > 0 then (if 0 ≤ (wrap64 (x5_1 - 1)) then (if (wrap64 (x5_1 - 1)) < (l0.length : Int) then (dolmenlaw13_FoldEpochs.j2 k1 a1 x5_1 t147 t150 t151 bt161.1 bt161.2 (decide (((rd_T32 l0 (wrap64 (x5_1 - 1))).f1) > 1099511627776))) else (none)) else (none)) else (dolmenlaw13_FoldEpochs.j2 k1 a1 x5_1 t147 t150 t151 bt161.1 bt161.2 false)))) else (none)) else (none)) = some r := H
          have A22 := Aside0.mk A220
          clear A220
          by_cases c23 : 0 ≤ x5_1
          · rw [if_pos c23] at H
            have c23b0 := eq_true c23
            have c23b1 : decide (0 ≤ x5_1) = true := decide_eq_true c23
            clear c23
            by_cases c24 : x5_1 ≤ (t147.length : Int)
            · rw [if_pos c24] at H
              have c24b0 := eq_true c24
              have c24b1 : decide (x5_1 ≤ (t147.length : Int)) = true := decide_eq_true c24
              clear c24
              obtain ⟨y156, hy156⟩ : ∃ y_ : List (S50), y_ = (t147.take (x5_1 : Int).toNat) := ⟨_, rfl⟩
              replace H : ((fold_Dir.f k1 y156 1099511627776).bind fun bt161 => (if x5_1 < (l0.length : Int) then (if ((rd_T32 l0 x5_1).f1) ≤ a1 then (dolmenlaw13_FoldEpochs.j2 k1 a1 x5_1 t147 t150 t151 bt161.1 bt161.2 true) else (if x5_1 > 0 then (if 0 ≤ (wrap64 (x5_1 - 1)) then (if (wrap64 (x5_1 - 1)) < (l0.length : Int) then (dolmenlaw13_FoldEpochs.j2 k1 a1 x5_1 t147 t150 t151 bt161.1 bt161.2 (decide (((rd_T32 l0 (wrap64 (x5_1 - 1))).f1) > 1099511627776))) else (none)) else (none)) else (dolmenlaw13_FoldEpochs.j2 k1 a1 x5_1 t147 t150 t151 bt161.1 bt161.2 false))) else (if x5_1 > 0 then (if 0 ≤ (wrap64 (x5_1 - 1)) then (if (wrap64 (x5_1 - 1)) < (l0.length : Int) then (dolmenlaw13_FoldEpochs.j2 k1 a1 x5_1 t147 t150 t151 bt161.1 bt161.2 (decide (((rd_T32 l0 (wrap64 (x5_1 - 1))).f1) > 1099511627776))) else (none)) else (none)) else (dolmenlaw13_FoldEpochs.j2 k1 a1 x5_1 t147 t150 t151 bt161.1 bt161.2 false)))) = some r := by first | (rw [hy156]; with_reducible exact H) | (have H2_ := (Option.bind_some _ _).symm.trans H; rw [hy156]; with_reducible exact H2_) | (have H2_ := (Option.bind_some _ _).symm.trans H; with_reducible exact H2_) | with_reducible exact H | (rw [hy156]; exact H) | exact H
              have Ny156 := Aside0.mk hy156
              clear hy156
              replace H := Option.bind_eq_some_iff.mp H
              obtain ⟨⟨t161, t162⟩, A250, H⟩ := H
              replace H : (if x5_1 < (l0.length : Int) then (if ((rd_T32 l0 x5_1).f1) ≤ a1 then (dolmenlaw13_FoldEpochs.j2 k1 a1 x5_1 t147 t150 t151 t161 t162 true) else (if x5_1 > 0 then (if 0 ≤ (wrap64 (x5_1 - 1)) then (if (wrap64 (x5_1 - 1)) < (l0.length : Int) then (dolmenlaw13_FoldEpochs.j2 k1 a1 x5_1 t147 t150 t151 t161 t162 (decide (((rd_T32 l0 (wrap64 (x5_1 - 1))).f1) > 1099511627776))) else (none)) else (none)) else (dolmenlaw13_FoldEpochs.j2 k1 a1 x5_1 t147 t150 t151 t161 t162 false))) else (if x5_1 > 0 then (if 0 ≤ (wrap64 (x5_1 - 1)) then (if (wrap64 (x5_1 - 1)) < (l0.length : Int) then (dolmenlaw13_FoldEpochs.j2 k1 a1 x5_1 t147 t150 t151 t161 t162 (decide (((rd_T32 l0 (wrap64 (x5_1 - 1))).f1) > 1099511627776))) else (none)) else (none)) else (dolmenlaw13_FoldEpochs.j2 k1 a1 x5_1 t147 t150 t151 t161 t162 false))) = some r := H
              have A25 := Aside0.mk A250
              clear A250
              have HC26 := Aside0.mk H
              clear H
              go_upto_region 14 with (first | ((with_reducible refine gate_callee (f := 16) rfl ?_); refine goesL_ (some 49) rfl rfl Try.func16 (by kernel_rfl) rfl #[.slice A0 l0.length c0] rfl (by (try simp only [List.map_toArray, List.map_cons, List.map_nil]); first | done | rfl | (simp only [List.length_drop, List.length_take]; rfl)) ?_; (with_reducible refine (dolmenlaw13_made.calls k1 (fun k_ => k_ < w.heap.size) _ _ l0 t147 _ ?side1 A21.out).mono ?_); (case side1 => exact Kd.V_mk HC0.out (Kd.F_below (Kd.C_F k32_heap HR0.out) (by repeat (first | (with_reducible first | exact HB.out | apply below_alloc | apply pw_below_drewN | apply below_drew1) | exact HB.out)))); rintro e w27 ⟨v148, rfl, ho0, hb⟩; refine ⟨_, rfl, ?_⟩; have n0_ := Aside0.mk (Kd.N_lower (Kd.N_mono (ok' := fun k_ => True) ho0 (fun k_ hk_ => trivial)) (below_size (by repeat (first | (with_reducible first | exact HB.out | apply below_alloc | apply pw_below_drewN | apply below_drew1) | exact HB.out)))); have n1_ := Aside0.mk (below_step (by repeat (first | (with_reducible first | exact HB.out | apply below_alloc | apply pw_below_drewN | apply below_drew1) | exact HB.out)) hb); clear HB; have HO149 := n0_; have HB := n1_; clear n0_ n1_; (try clear hb); (try clear hb2); (try clear hk); (try clear hi); (try clear ho0); obtain ⟨Ao28, co28, eo28⟩ := Kd.N_slice HO149.out; subst eo28) | ((with_reducible refine gate_callee (f := 37) rfl ?_); refine goesL_ (some 53) rfl rfl Try.func37 (by kernel_rfl) rfl #[.slice Ao28 t147.length co28, .int .i64 a1] rfl (by (try simp only [List.map_toArray, List.map_cons, List.map_nil]); first | done | rfl | (simp only [List.length_drop, List.length_take]; rfl)) ?_; (with_reducible refine (fold_Dir.calls k1 _ _ t147 a1 t150 t151 _ ?side1 ?side2 A22.out).mono ?_); (case side1 => repeat (first | exact (Kd.N_reads' HO149.out).2.2 | (with_reducible refine Kd.C_alloc ?_ _) | (with_reducible refine Kd.C_drewN ?_ _) | (with_reducible refine Kd.C_drew ?_))); (case side2 => exact (Kd.N_reads' HO149.out).2.1); rintro e w29 ⟨v152, v154, rfl, ho0, ho1, hb⟩; refine ⟨_, rfl, ?_⟩; have n0_ := Aside0.mk (Kd.N_mono (Kd.N_told (Kd.N_told (Kd.N_old (by (with_reducible repeat (first | apply Kd.N_alloc | apply Kd.N_drewN | apply Kd.N_drew)); exact HO149.out) hb) (Kd.R_base ho0)) (Kd.R_base ho1)) (fun _ h_ => h_.1)); have n1_ := Aside0.mk (Kd.R_lower ho0 (below_size (by repeat (first | (with_reducible first | exact HB.out | apply below_alloc | apply pw_below_drewN | apply below_drew1) | exact HB.out)))); have n2_ := Aside0.mk (Kd.R_lower ho1 (below_size (by repeat (first | (with_reducible first | exact HB.out | apply below_alloc | apply pw_below_drewN | apply below_drew1) | exact HB.out)))); have n3_ := Aside0.mk (below_step (by repeat (first | (with_reducible first | exact HB.out | apply below_alloc | apply pw_below_drewN | apply below_drew1) | exact HB.out)) hb); clear HO149; clear HB; have HO149 := n0_; have HO153 := n1_; have HO155 := n2_; have HB := n3_; clear n0_ n1_ n2_ n3_; (try clear hb); (try clear hb2); (try clear hk); (try clear hi); (try clear ho0); (try clear ho1); have q30 : (x5_1 : Int) ≤ ((t147.length : Int) : Int) := of_decide_eq_true (by first | (with_reducible assumption) | assumption); obtain ⟨i030, hi030, _, hsz30, _⟩ := info_parts info50; have hroom30 : t147.length ≤ co28 := (Kd.N_reads' HO149.out).2.1; have hC30 : Kd.F k50 _ _ Ao28 t147.length t147 := (Kd.V_at (base := w.heap.size) (Kd.N_V HO149.out)).2.2; have hcut30 := cut_to (P := Try.prog) 27 50 .i64 Try.underlying27 hi030 Ao28 t147.length co28 x5_1 (of_decide_eq_true (by first | (with_reducible assumption) | assumption)) q30 hroom30; have hr30 := Kd.F_take (m := (x5_1 : Int).toNat) hC30 (by omega); have hy30 : y156.length = (x5_1 : Int).toNat := (by rw [Ny156.out, List.length_take]; omega); rw [← Ny156.out] at hr30; rw [← hy30] at hcut30; have HO160 := Aside0.mk (show Kd.V k50 50 _ w.heap.size _ (.slice Ao28 y156.length co28) y156 from Kd.V_mk (by omega) hr30); have HC160 := Aside0.mk (show y156.length ≤ co28 from by omega); clear hr30 hC30 hroom30 hi030 hsz30; have KY30 := Aside0.mk hy30; clear hy30; replace q30 := eq_true q30) | ((with_reducible refine gate_callee (f := 37) rfl ?_); refine goesL_ (some 60) rfl rfl Try.func37 (by kernel_rfl) rfl #[.slice Ao28 y156.length co28, .int .i64 1099511627776] rfl (by (try simp only [List.map_toArray, List.map_cons, List.map_nil]); first | done | rfl | (simp only [List.length_drop, List.length_take]; rfl)) ?_; (with_reducible refine (fold_Dir.calls k1 _ _ y156 1099511627776 t161 t162 _ ?side1 ?side2 A25.out).mono ?_); (case side1 => repeat (first | exact (Kd.V_reads' HO160.out).2.2 | (with_reducible refine Kd.C_alloc ?_ _) | (with_reducible refine Kd.C_drewN ?_ _) | (with_reducible refine Kd.C_drew ?_))); (case side2 => exact (Kd.V_reads' HO160.out).2.1); rintro e w31 ⟨v163, v165, rfl, ho0, ho1, hb⟩; refine ⟨_, rfl, ?_⟩; have n0_ := Aside0.mk (Kd.N_mono (Kd.N_told (Kd.N_told (Kd.N_old (by (with_reducible repeat (first | apply Kd.N_alloc | apply Kd.N_drewN | apply Kd.N_drew)); exact HO149.out) hb) (Kd.R_base ho0)) (Kd.R_base ho1)) (fun _ h_ => h_.1)); have n1_ := Aside0.mk (Kd.R_elder' (by (with_reducible repeat (first | apply Kd.R_alloc | apply Kd.R_drewN | apply Kd.R_drew)); exact HO153.out) (Kd.R_base ho0) hb); have n2_ := Aside0.mk (Kd.R_elder' (by (with_reducible repeat (first | apply Kd.R_alloc | apply Kd.R_drewN | apply Kd.R_drew)); exact HO155.out) (Kd.R_base ho1) hb); have n3_ := Aside0.mk (Kd.V_mono (Kd.V_told (Kd.V_told (Kd.V_old (by (with_reducible repeat (first | apply Kd.V_alloc | apply Kd.V_drewN | apply Kd.V_drew)); exact HO160.out) hb) (Kd.R_base ho0)) (Kd.R_base ho1)) (fun _ h_ => h_.1)); have n4_ := Aside0.mk (Kd.R_lower (Kd.R_new' ho0 (Kd.R_lt (by (with_reducible repeat (first | apply Kd.R_alloc | apply Kd.R_drewN | apply Kd.R_drew)); exact HO153.out))) (below_size (by repeat (first | (with_reducible first | exact HB.out | apply below_alloc | apply pw_below_drewN | apply below_drew1) | exact HB.out)))); have n5_ := Aside0.mk (Kd.R_lower (Kd.R_new' ho1 (Kd.R_lt (by (with_reducible repeat (first | apply Kd.R_alloc | apply Kd.R_drewN | apply Kd.R_drew)); exact HO155.out))) (below_size (by repeat (first | (with_reducible first | exact HB.out | apply below_alloc | apply pw_below_drewN | apply below_drew1) | exact HB.out)))); have n6_ := Aside0.mk (below_step (by repeat (first | (with_reducible first | exact HB.out | apply below_alloc | apply pw_below_drewN | apply below_drew1) | exact HB.out)) hb); clear HO149; clear HO153; clear HO155; clear HO160; clear HB; have HO149 := n0_; have HO153 := n1_; have HO155 := n2_; have HO160 := n3_; have HO164 := n4_; have HO166 := n5_; have HB := n6_; clear n0_ n1_ n2_ n3_ n4_ n5_ n6_; (try clear hb); (try clear hb2); (try clear hk); (try clear hi); (try clear ho0); (try clear ho1)))
              (try simp only [Act.put, List.setIfInBounds_toArray, List.set_cons_zero, List.set_cons_succ])
              go_cut [88] (fun v88 wc => ∃ (kq : Nat) (x88_25 : Bool), v88 = .bool x88_25 ∧ Aside0 (dolmenlaw13_FoldEpochs.j2 kq a1 x5_1 t147 t150 t151 t161 t162 x88_25 = some r) ∧ Aside0 (kq ≤ k1) ∧ Aside0 (Kd.N k50 50 wc w.heap.size (fun k_ => some k_ ≠ (v152 : Value).ownBlock ∧ some k_ ≠ (v154 : Value).ownBlock ∧ some k_ ≠ (v163 : Value).ownBlock ∧ some k_ ≠ (v165 : Value).ownBlock) (.slice Ao28 t147.length co28) t147) ∧ Aside0 (Kd.R Kd.string 9 wc w.heap.size (fun k_ => some k_ ≠ (v163 : Value).ownBlock) v152 t150) ∧ Aside0 (Kd.R (Kd.int .i64) 3 wc w.heap.size (fun k_ => some k_ ≠ (v165 : Value).ownBlock) v154 t151) ∧ Aside0 (Kd.R Kd.string 9 wc w.heap.size (fun k_ => some k_ ≠ (v152 : Value).ownBlock) v163 t161) ∧ Aside0 (Kd.R (Kd.int .i64) 3 wc w.heap.size (fun k_ => some k_ ≠ (v154 : Value).ownBlock) v165 t162) ∧ Aside0 (Below w.heap.size w wc))
              case first =>
                have H := HC26.out
                clear HC26
                by_cases c32 : x5_1 < (l0.length : Int)
                · rw [if_pos c32] at H
                  have c32b0 : decide (x5_1 < (l0.length : Int)) = true := decide_eq_true c32
                  clear c32
                  (first | rw [c32b0] | (simp only [i64_w, i32_w]; rw [c32b0]) | skip)
                  by_cases c33 : ((rd_T32 l0 x5_1).f1) ≤ a1
                  · rw [if_pos c33] at H
                    have c33b0 : decide (((rd_T32 l0 x5_1).f1) ≤ a1) = true := decide_eq_true c33
                    clear c33
                    have H' := Aside0.mk H
                    clear H
                    have p167 : 0 ≤ (x5_1 : Int) := of_decide_eq_true (by first | (with_reducible assumption) | assumption)
                    have q167 : x5_1 < (l0.length : Int) := of_decide_eq_true (by first | (with_reducible assumption) | assumption)
                    obtain ⟨ad167, A167_3, c167_3, e167, hx167_0, hx167_1, hx167_2, hx167_3, hx167_4, hx167_5, hl167_3, hi167_3⟩ := at_T32 HR0.out x5_1 p167 q167
                    cases e167
                    replace hx167_0 := (HB.out.cell (World.block_lt_of_cell? w _ hx167_0)).trans hx167_0
                    replace hx167_1 := (HB.out.cell (World.block_lt_of_cell? w _ hx167_1)).trans hx167_1
                    replace hx167_2 := (HB.out.cell (World.block_lt_of_cell? w _ hx167_2)).trans hx167_2
                    replace hx167_3 := (HB.out.cell (World.block_lt_of_cell? w _ hx167_3)).trans hx167_3
                    replace hx167_4 := (HB.out.cell (World.block_lt_of_cell? w _ hx167_4)).trans hx167_4
                    replace hx167_5 := (HB.out.cell (World.block_lt_of_cell? w _ hx167_5)).trans hx167_5
                    have HR167_3 := Aside0.mk hi167_3
                    have HC167_3 := Aside0.mk hl167_3
                    clear hi167_3 hl167_3
                    replace p167 := eq_true p167
                    replace q167 := eq_true q167
                    go_wp2
                    go_meet
                    case rel => exact ⟨_, (true), (by first | rfl | (simp; done) | (simp [*]; done)), H', ⟨by have := HK1.out; first | omega | exact Nat.le_refl _⟩, ⟨by (with_reducible repeat (first | apply Kd.N_alloc | apply Kd.N_drewN | apply Kd.N_drew)); exact Kd.N_mono HO149.out (fun _ hk => ⟨hk.1.1.1.2, ⟨hk.1.1.2, ⟨hk.1.2, hk.2⟩⟩⟩)⟩, ⟨by (with_reducible repeat (first | apply Kd.R_alloc | apply Kd.R_drewN | apply Kd.R_drew)); exact Kd.R_mono HO153.out (fun _ hk => hk.2)⟩, ⟨by (with_reducible repeat (first | apply Kd.R_alloc | apply Kd.R_drewN | apply Kd.R_drew)); exact Kd.R_mono HO155.out (fun _ hk => hk.2)⟩, ⟨by (with_reducible repeat (first | apply Kd.R_alloc | apply Kd.R_drewN | apply Kd.R_drew)); exact Kd.R_mono HO164.out (fun _ hk => hk.2)⟩, ⟨by (with_reducible repeat (first | apply Kd.R_alloc | apply Kd.R_drewN | apply Kd.R_drew)); exact Kd.R_mono HO166.out (fun _ hk => hk.2)⟩, ⟨by repeat (first | (with_reducible first | exact HB.out | apply below_alloc | apply pw_below_drewN | apply below_drew1) | exact HB.out)⟩⟩
                  · rw [if_neg c33] at H
                    have c33b0 : decide (((rd_T32 l0 x5_1).f1) ≤ a1) = false := decide_eq_false c33
                    clear c33
                    by_cases c34 : x5_1 > 0
                    · rw [if_pos c34] at H
                      have c34b0 : decide (0 < x5_1) = true := decide_eq_true c34
                      clear c34
                      obtain ⟨ji35, hji35⟩ : ∃ j_ : Int, (wrap64 (x5_1 - 1)) = j_ := ⟨_, rfl⟩
                      replace H : (if 0 ≤ (ji35) then (if (ji35) < (l0.length : Int) then (dolmenlaw13_FoldEpochs.j2 k1 a1 x5_1 t147 t150 t151 t161 t162 (decide (((rd_T32 l0 (ji35)).f1) > 1099511627776))) else (none)) else (none)) = some r := by first | (rw [hji35] at H; exact H) | (simp only [hji35] at H ⊢; exact H)
                      have hji35w : (IntKind.i64.wrap (x5_1 - 1)) = ji35 := (i64_w _).trans hji35
                      by_cases c36 : 0 ≤ (ji35)
                      · rw [if_pos c36] at H
                        have c36b0 : decide (0 ≤ (ji35)) = true := decide_eq_true c36
                        clear c36
                        by_cases c37 : (ji35) < (l0.length : Int)
                        · rw [if_pos c37] at H
                          have c37b0 : decide ((ji35) < (l0.length : Int)) = true := decide_eq_true c37
                          clear c37
                          have H' := Aside0.mk H
                          clear H
                          have p167 : 0 ≤ (x5_1 : Int) := of_decide_eq_true (by first | (with_reducible assumption) | assumption)
                          have q167 : x5_1 < (l0.length : Int) := of_decide_eq_true (by first | (with_reducible assumption) | assumption)
                          obtain ⟨ad167, A167_3, c167_3, e167, hx167_0, hx167_1, hx167_2, hx167_3, hx167_4, hx167_5, hl167_3, hi167_3⟩ := at_T32 HR0.out x5_1 p167 q167
                          cases e167
                          replace hx167_0 := (HB.out.cell (World.block_lt_of_cell? w _ hx167_0)).trans hx167_0
                          replace hx167_1 := (HB.out.cell (World.block_lt_of_cell? w _ hx167_1)).trans hx167_1
                          replace hx167_2 := (HB.out.cell (World.block_lt_of_cell? w _ hx167_2)).trans hx167_2
                          replace hx167_3 := (HB.out.cell (World.block_lt_of_cell? w _ hx167_3)).trans hx167_3
                          replace hx167_4 := (HB.out.cell (World.block_lt_of_cell? w _ hx167_4)).trans hx167_4
                          replace hx167_5 := (HB.out.cell (World.block_lt_of_cell? w _ hx167_5)).trans hx167_5
                          have HR167_3 := Aside0.mk hi167_3
                          have HC167_3 := Aside0.mk hl167_3
                          clear hi167_3 hl167_3
                          replace p167 := eq_true p167
                          replace q167 := eq_true q167
                          have p168 : 0 ≤ ((ji35) : Int) := of_decide_eq_true (by first | (with_reducible assumption) | assumption)
                          have q168 : (ji35) < (l0.length : Int) := of_decide_eq_true (by first | (with_reducible assumption) | assumption)
                          obtain ⟨ad168, A168_3, c168_3, e168, hx168_0, hx168_1, hx168_2, hx168_3, hx168_4, hx168_5, hl168_3, hi168_3⟩ := at_T32 HR0.out (ji35) p168 q168
                          obtain rfl : ad167 = ad168 := (by injection e168)
                          replace hx168_0 := (HB.out.cell (World.block_lt_of_cell? w _ hx168_0)).trans hx168_0
                          replace hx168_1 := (HB.out.cell (World.block_lt_of_cell? w _ hx168_1)).trans hx168_1
                          replace hx168_2 := (HB.out.cell (World.block_lt_of_cell? w _ hx168_2)).trans hx168_2
                          replace hx168_3 := (HB.out.cell (World.block_lt_of_cell? w _ hx168_3)).trans hx168_3
                          replace hx168_4 := (HB.out.cell (World.block_lt_of_cell? w _ hx168_4)).trans hx168_4
                          replace hx168_5 := (HB.out.cell (World.block_lt_of_cell? w _ hx168_5)).trans hx168_5
                          have HR168_3 := Aside0.mk hi168_3
                          have HC168_3 := Aside0.mk hl168_3
                          clear hi168_3 hl168_3
                          replace p168 := eq_true p168
                          replace q168 := eq_true q168
                          go_wp2
                          go_meet
                          case rel => exact ⟨_, (decide (((rd_T32 l0 (ji35)).f1) > 1099511627776)), (by first | rfl | (simp; done) | (simp only [← hji35] <;> (first | rfl | simp)) | (simp [*]; done)), H', ⟨by have := HK1.out; first | omega | exact Nat.le_refl _⟩, ⟨by (with_reducible repeat (first | apply Kd.N_alloc | apply Kd.N_drewN | apply Kd.N_drew)); exact Kd.N_mono HO149.out (fun _ hk => ⟨hk.1.1.1.2, ⟨hk.1.1.2, ⟨hk.1.2, hk.2⟩⟩⟩)⟩, ⟨by (with_reducible repeat (first | apply Kd.R_alloc | apply Kd.R_drewN | apply Kd.R_drew)); exact Kd.R_mono HO153.out (fun _ hk => hk.2)⟩, ⟨by (with_reducible repeat (first | apply Kd.R_alloc | apply Kd.R_drewN | apply Kd.R_drew)); exact Kd.R_mono HO155.out (fun _ hk => hk.2)⟩, ⟨by (with_reducible repeat (first | apply Kd.R_alloc | apply Kd.R_drewN | apply Kd.R_drew)); exact Kd.R_mono HO164.out (fun _ hk => hk.2)⟩, ⟨by (with_reducible repeat (first | apply Kd.R_alloc | apply Kd.R_drewN | apply Kd.R_drew)); exact Kd.R_mono HO166.out (fun _ hk => hk.2)⟩, ⟨by repeat (first | (with_reducible first | exact HB.out | apply below_alloc | apply pw_below_drewN | apply below_drew1) | exact HB.out)⟩⟩
                        · rw [if_neg c37] at H
                          exact absurd H (by simp)
                      · rw [if_neg c36] at H
                        exact absurd H (by simp)
                    · rw [if_neg c34] at H
                      have c34b0 : decide (0 < x5_1) = false := decide_eq_false c34
                      clear c34
                      have H' := Aside0.mk H
                      clear H
                      have p167 : 0 ≤ (x5_1 : Int) := of_decide_eq_true (by first | (with_reducible assumption) | assumption)
                      have q167 : x5_1 < (l0.length : Int) := of_decide_eq_true (by first | (with_reducible assumption) | assumption)
                      obtain ⟨ad167, A167_3, c167_3, e167, hx167_0, hx167_1, hx167_2, hx167_3, hx167_4, hx167_5, hl167_3, hi167_3⟩ := at_T32 HR0.out x5_1 p167 q167
                      cases e167
                      replace hx167_0 := (HB.out.cell (World.block_lt_of_cell? w _ hx167_0)).trans hx167_0
                      replace hx167_1 := (HB.out.cell (World.block_lt_of_cell? w _ hx167_1)).trans hx167_1
                      replace hx167_2 := (HB.out.cell (World.block_lt_of_cell? w _ hx167_2)).trans hx167_2
                      replace hx167_3 := (HB.out.cell (World.block_lt_of_cell? w _ hx167_3)).trans hx167_3
                      replace hx167_4 := (HB.out.cell (World.block_lt_of_cell? w _ hx167_4)).trans hx167_4
                      replace hx167_5 := (HB.out.cell (World.block_lt_of_cell? w _ hx167_5)).trans hx167_5
                      have HR167_3 := Aside0.mk hi167_3
                      have HC167_3 := Aside0.mk hl167_3
                      clear hi167_3 hl167_3
                      replace p167 := eq_true p167
                      replace q167 := eq_true q167
                      go_wp2
                      go_meet
                      case rel => exact ⟨_, (false), (by first | rfl | (simp; done) | (simp [*]; done)), H', ⟨by have := HK1.out; first | omega | exact Nat.le_refl _⟩, ⟨by (with_reducible repeat (first | apply Kd.N_alloc | apply Kd.N_drewN | apply Kd.N_drew)); exact Kd.N_mono HO149.out (fun _ hk => ⟨hk.1.1.1.2, ⟨hk.1.1.2, ⟨hk.1.2, hk.2⟩⟩⟩)⟩, ⟨by (with_reducible repeat (first | apply Kd.R_alloc | apply Kd.R_drewN | apply Kd.R_drew)); exact Kd.R_mono HO153.out (fun _ hk => hk.2)⟩, ⟨by (with_reducible repeat (first | apply Kd.R_alloc | apply Kd.R_drewN | apply Kd.R_drew)); exact Kd.R_mono HO155.out (fun _ hk => hk.2)⟩, ⟨by (with_reducible repeat (first | apply Kd.R_alloc | apply Kd.R_drewN | apply Kd.R_drew)); exact Kd.R_mono HO164.out (fun _ hk => hk.2)⟩, ⟨by (with_reducible repeat (first | apply Kd.R_alloc | apply Kd.R_drewN | apply Kd.R_drew)); exact Kd.R_mono HO166.out (fun _ hk => hk.2)⟩, ⟨by repeat (first | (with_reducible first | exact HB.out | apply below_alloc | apply pw_below_drewN | apply below_drew1) | exact HB.out)⟩⟩
                · rw [if_neg c32] at H
                  have c32b0 : decide (x5_1 < (l0.length : Int)) = false := decide_eq_false c32
                  clear c32
                  (first | rw [c32b0] | (simp only [i64_w, i32_w]; rw [c32b0]) | skip)
                  by_cases c38 : x5_1 > 0
                  · rw [if_pos c38] at H
                    have c38b0 : decide (0 < x5_1) = true := decide_eq_true c38
                    clear c38
                    obtain ⟨ji39, hji39⟩ : ∃ j_ : Int, (wrap64 (x5_1 - 1)) = j_ := ⟨_, rfl⟩
                    replace H : (if 0 ≤ (ji39) then (if (ji39) < (l0.length : Int) then (dolmenlaw13_FoldEpochs.j2 k1 a1 x5_1 t147 t150 t151 t161 t162 (decide (((rd_T32 l0 (ji39)).f1) > 1099511627776))) else (none)) else (none)) = some r := by first | (rw [hji39] at H; exact H) | (simp only [hji39] at H ⊢; exact H)
                    have hji39w : (IntKind.i64.wrap (x5_1 - 1)) = ji39 := (i64_w _).trans hji39
                    by_cases c40 : 0 ≤ (ji39)
                    · rw [if_pos c40] at H
                      have c40b0 : decide (0 ≤ (ji39)) = true := decide_eq_true c40
                      clear c40
                      by_cases c41 : (ji39) < (l0.length : Int)
                      · rw [if_pos c41] at H
                        have c41b0 : decide ((ji39) < (l0.length : Int)) = true := decide_eq_true c41
                        clear c41
                        have H' := Aside0.mk H
                        clear H
                        have p169 : 0 ≤ ((ji39) : Int) := of_decide_eq_true (by first | (with_reducible assumption) | assumption)
                        have q169 : (ji39) < (l0.length : Int) := of_decide_eq_true (by first | (with_reducible assumption) | assumption)
                        obtain ⟨ad169, A169_3, c169_3, e169, hx169_0, hx169_1, hx169_2, hx169_3, hx169_4, hx169_5, hl169_3, hi169_3⟩ := at_T32 HR0.out (ji39) p169 q169
                        cases e169
                        replace hx169_0 := (HB.out.cell (World.block_lt_of_cell? w _ hx169_0)).trans hx169_0
                        replace hx169_1 := (HB.out.cell (World.block_lt_of_cell? w _ hx169_1)).trans hx169_1
                        replace hx169_2 := (HB.out.cell (World.block_lt_of_cell? w _ hx169_2)).trans hx169_2
                        replace hx169_3 := (HB.out.cell (World.block_lt_of_cell? w _ hx169_3)).trans hx169_3
                        replace hx169_4 := (HB.out.cell (World.block_lt_of_cell? w _ hx169_4)).trans hx169_4
                        replace hx169_5 := (HB.out.cell (World.block_lt_of_cell? w _ hx169_5)).trans hx169_5
                        have HR169_3 := Aside0.mk hi169_3
                        have HC169_3 := Aside0.mk hl169_3
                        clear hi169_3 hl169_3
                        replace p169 := eq_true p169
                        replace q169 := eq_true q169
                        go_wp2
                        go_meet
                        case rel => exact ⟨_, (decide (((rd_T32 l0 (ji39)).f1) > 1099511627776)), (by first | rfl | (simp; done) | (simp only [← hji39] <;> (first | rfl | simp)) | (simp [*]; done)), H', ⟨by have := HK1.out; first | omega | exact Nat.le_refl _⟩, ⟨by (with_reducible repeat (first | apply Kd.N_alloc | apply Kd.N_drewN | apply Kd.N_drew)); exact Kd.N_mono HO149.out (fun _ hk => ⟨hk.1.1.1.2, ⟨hk.1.1.2, ⟨hk.1.2, hk.2⟩⟩⟩)⟩, ⟨by (with_reducible repeat (first | apply Kd.R_alloc | apply Kd.R_drewN | apply Kd.R_drew)); exact Kd.R_mono HO153.out (fun _ hk => hk.2)⟩, ⟨by (with_reducible repeat (first | apply Kd.R_alloc | apply Kd.R_drewN | apply Kd.R_drew)); exact Kd.R_mono HO155.out (fun _ hk => hk.2)⟩, ⟨by (with_reducible repeat (first | apply Kd.R_alloc | apply Kd.R_drewN | apply Kd.R_drew)); exact Kd.R_mono HO164.out (fun _ hk => hk.2)⟩, ⟨by (with_reducible repeat (first | apply Kd.R_alloc | apply Kd.R_drewN | apply Kd.R_drew)); exact Kd.R_mono HO166.out (fun _ hk => hk.2)⟩, ⟨by repeat (first | (with_reducible first | exact HB.out | apply below_alloc | apply pw_below_drewN | apply below_drew1) | exact HB.out)⟩⟩
                      · rw [if_neg c41] at H
                        exact absurd H (by simp)
                    · rw [if_neg c40] at H
                      exact absurd H (by simp)
                  · rw [if_neg c38] at H
                    have c38b0 : decide (0 < x5_1) = false := decide_eq_false c38
                    clear c38
                    have H' := Aside0.mk H
                    clear H
                    go_wp2
                    go_meet
                    case rel => exact ⟨_, (false), (by first | rfl | (simp; done) | (simp [*]; done)), H', ⟨by have := HK1.out; first | omega | exact Nat.le_refl _⟩, ⟨by (with_reducible repeat (first | apply Kd.N_alloc | apply Kd.N_drewN | apply Kd.N_drew)); exact Kd.N_mono HO149.out (fun _ hk => ⟨hk.1.1.1.2, ⟨hk.1.1.2, ⟨hk.1.2, hk.2⟩⟩⟩)⟩, ⟨by (with_reducible repeat (first | apply Kd.R_alloc | apply Kd.R_drewN | apply Kd.R_drew)); exact Kd.R_mono HO153.out (fun _ hk => hk.2)⟩, ⟨by (with_reducible repeat (first | apply Kd.R_alloc | apply Kd.R_drewN | apply Kd.R_drew)); exact Kd.R_mono HO155.out (fun _ hk => hk.2)⟩, ⟨by (with_reducible repeat (first | apply Kd.R_alloc | apply Kd.R_drewN | apply Kd.R_drew)); exact Kd.R_mono HO164.out (fun _ hk => hk.2)⟩, ⟨by (with_reducible repeat (first | apply Kd.R_alloc | apply Kd.R_drewN | apply Kd.R_drew)); exact Kd.R_mono HO166.out (fun _ hk => hk.2)⟩, ⟨by repeat (first | (with_reducible first | exact HB.out | apply below_alloc | apply pw_below_drewN | apply below_drew1) | exact HB.out)⟩⟩
              case rest =>
                clear HC26
                try clear c1
                try clear p1
                try clear q1
                try clear hx1
                try clear c2
                try clear p2
                try clear c3
                try clear q3
                try clear c4
                try clear c6
                try clear c6b0
                try clear p6
                try clear c8
                try clear c8b0
                try clear c9
                try clear c9b0
                try clear c11
                try clear c11b0
                try clear c12
                try clear c12b0
                try clear c13
                try clear c14
                try clear p14
                try clear q14
                try clear hx14
                try clear c15
                try clear c16
                try clear p16
                try clear q16
                try clear hx16
                try clear c18
                try clear c18b0
                try clear c19
                try clear c19b0
                try clear c20
                try clear c20b0
                try clear c23
                try clear c23b0
                try clear c23b1
                try clear c24
                try clear c24b0
                try clear c24b1
                try clear q30
                try clear c32
                try clear c32b0
                try clear c33
                try clear c33b0
                try clear c34
                try clear c34b0
                try clear c36
                try clear c36b0
                try clear c37
                try clear c37b0
                try clear c38
                try clear c38b0
                try clear c40
                try clear c40b0
                try clear c41
                try clear c41b0
                try clear hx143_0
                try clear hx143_1
                try clear hx143_2
                try clear hx143_3
                try clear hx143_4
                try clear hx143_5
                try clear hx144_0
                try clear hx144_1
                try clear hx144_2
                try clear hx144_3
                try clear hx144_4
                try clear hx144_5
                try clear hx146_0
                try clear hx146_1
                try clear hx146_2
                try clear hx146_3
                try clear hx146_4
                try clear hx146_5
                try clear hx167_0
                try clear hx167_1
                try clear hx167_2
                try clear hx167_3
                try clear hx167_4
                try clear hx167_5
                try clear hx168_0
                try clear hx168_1
                try clear hx168_2
                try clear hx168_3
                try clear hx168_4
                try clear hx168_5
                try clear hx169_0
                try clear hx169_1
                try clear hx169_2
                try clear hx169_3
                try clear hx169_4
                try clear hx169_5
                try clear p1
                try clear p14
                try clear p143
                try clear p144
                try clear p146
                try clear p167
                try clear p168
                try clear p169
                try clear p2
                try clear p6
                try clear q1
                try clear q14
                try clear q143
                try clear q144
                try clear q146
                try clear q167
                try clear q168
                try clear q169
                try clear q30
                obtain ⟨kq, x88_25, rfl, HA, HJ25, HO_7, HO_8, HO_9, HO_10, HO_11, HB⟩ := hcut
                cases kq with
                | zero => exact absurd HA.out (by simp [dolmenlaw13_FoldEpochs.j2])
                | succ kj25 =>
                  have H := HA.out
                  clear HA
                  simp only [dolmenlaw13_FoldEpochs.j2] at H
                  by_cases c42 : x88_25 = true
                  · subst c42
                    have H1 : ((dolmenlaw13_awake.f).bind fun t170 => (some t170)) = some r := by rw [if_pos rfl] at H; exact H
                    clear H
                    have H := H1
                    clear H1
                    replace H := Option.bind_eq_some_iff.mp H
                    obtain ⟨t170, A430, H⟩ := H
                    replace H : (some t170) = some r := H
                    have A43 := Aside0.mk A430
                    clear A430
                    obtain rfl := Option.some.inj H
                    go_wp2_with (first | ((with_reducible refine gate_callee (f := 14) rfl ?_); refine goesL_ (some 89) rfl rfl Try.func14 (by kernel_rfl) rfl #[] rfl (by (try simp only [List.map_toArray, List.map_cons, List.map_nil]); first | done | rfl | (simp only [List.length_drop, List.length_take]; rfl)) ?_; (with_reducible refine (dolmenlaw13_awake.calls  t170 _ A43.out).mono ?_); rintro e w44 ⟨rfl, hb⟩; refine ⟨_, rfl, ?_⟩; have n0_ := Aside0.mk (Kd.N_below (by (with_reducible repeat (first | apply Kd.N_alloc | apply Kd.N_drewN | apply Kd.N_drew)); exact HO_7.out) hb); have n1_ := Aside0.mk (Kd.R_below (by (with_reducible repeat (first | apply Kd.R_alloc | apply Kd.R_drewN | apply Kd.R_drew)); exact HO_8.out) hb); have n2_ := Aside0.mk (Kd.R_below (by (with_reducible repeat (first | apply Kd.R_alloc | apply Kd.R_drewN | apply Kd.R_drew)); exact HO_9.out) hb); have n3_ := Aside0.mk (Kd.R_below (by (with_reducible repeat (first | apply Kd.R_alloc | apply Kd.R_drewN | apply Kd.R_drew)); exact HO_10.out) hb); have n4_ := Aside0.mk (Kd.R_below (by (with_reducible repeat (first | apply Kd.R_alloc | apply Kd.R_drewN | apply Kd.R_drew)); exact HO_11.out) hb); have n5_ := Aside0.mk (below_step (by repeat (first | (with_reducible first | exact HB.out | apply below_alloc | apply pw_below_drewN | apply below_drew1) | exact HB.out)) hb); clear HO_7; clear HO_8; clear HO_9; clear HO_10; clear HO_11; clear HB; have HO_7 := n0_; have HO_8 := n1_; have HO_9 := n2_; have HO_10 := n3_; have HO_11 := n4_; have HB := n5_; clear n0_ n1_ n2_ n3_ n4_ n5_; (try clear hb); (try clear hb2); (try clear hk); (try clear hi)))
                    go_ret
                    exact ⟨by first | rfl | (simp [errW_none, errW_some] <;> rfl) | (simp [*, errW_none, errW_some] <;> rfl), by repeat (first | (with_reducible first | exact HB.out | apply below_alloc | apply pw_below_drewN | apply below_drew1) | exact HB.out)⟩
                  · replace c42 := Bool.eq_false_iff.mpr c42
                    subst c42
                    have H1 : ((fold_File.f kj25 t147 a1).bind fun t171 => (if 0 ≤ x5_1 then (if x5_1 ≤ (t147.length : Int) then ((fold_File.f kj25 (t147.take (x5_1 : Int).toNat) 1099511627776).bind fun t179 => (if (strOfNums t171).toList = (strOfNums t179).toList then ((dolmenref5_Texts.f kj25 t150 t161).bind fun t182 => (if t182 = true then ((dolmenref5_Ints.f kj25 t151 t162).bind fun t183 => (if t183 = true then ((dolmenlaw13_awake.f).bind fun t184 => (some t184)) else (none))) else (none))) else (none))) else (none)) else (none))) = some r := by rw [if_neg (show ¬ (false = true) by decide)] at H; exact H
                    clear H
                    have H := H1
                    clear H1
                    replace H := Option.bind_eq_some_iff.mp H
                    obtain ⟨t171, A450, H⟩ := H
                    replace H : (if 0 ≤ x5_1 then (if x5_1 ≤ (t147.length : Int) then ((fold_File.f kj25 (t147.take (x5_1 : Int).toNat) 1099511627776).bind fun t179 => (if (strOfNums t171).toList = (strOfNums t179).toList then ((dolmenref5_Texts.f kj25 t150 t161).bind fun t182 => (if t182 = true then ((dolmenref5_Ints.f kj25 t151 t162).bind fun t183 => (if t183 = true then ((dolmenlaw13_awake.f).bind fun t184 => (some t184)) else (none))) else (none))) else (none))) else (none)) else (none)) = some r := H
                    have A45 := Aside0.mk A450
                    clear A450
                    by_cases c46 : 0 ≤ x5_1
                    · rw [if_pos c46] at H
                      have c46b0 := eq_true c46
                      have c46b1 : decide (0 ≤ x5_1) = true := decide_eq_true c46
                      clear c46
                      by_cases c47 : x5_1 ≤ (t147.length : Int)
                      · rw [if_pos c47] at H
                        have c47b0 := eq_true c47
                        have c47b1 : decide (x5_1 ≤ (t147.length : Int)) = true := decide_eq_true c47
                        clear c47
                        obtain ⟨y174, hy174⟩ : ∃ y_ : List (S50), y_ = (t147.take (x5_1 : Int).toNat) := ⟨_, rfl⟩
                        replace H : ((fold_File.f kj25 y174 1099511627776).bind fun t179 => (if (strOfNums t171).toList = (strOfNums t179).toList then ((dolmenref5_Texts.f kj25 t150 t161).bind fun t182 => (if t182 = true then ((dolmenref5_Ints.f kj25 t151 t162).bind fun t183 => (if t183 = true then ((dolmenlaw13_awake.f).bind fun t184 => (some t184)) else (none))) else (none))) else (none))) = some r := by first | (rw [hy174]; with_reducible exact H) | (have H2_ := (Option.bind_some _ _).symm.trans H; rw [hy174]; with_reducible exact H2_) | (have H2_ := (Option.bind_some _ _).symm.trans H; with_reducible exact H2_) | with_reducible exact H | (rw [hy174]; exact H) | exact H
                        have Ny174 := Aside0.mk hy174
                        clear hy174
                        replace H := Option.bind_eq_some_iff.mp H
                        obtain ⟨t179, A480, H⟩ := H
                        replace H : (if (strOfNums t171).toList = (strOfNums t179).toList then ((dolmenref5_Texts.f kj25 t150 t161).bind fun t182 => (if t182 = true then ((dolmenref5_Ints.f kj25 t151 t162).bind fun t183 => (if t183 = true then ((dolmenlaw13_awake.f).bind fun t184 => (some t184)) else (none))) else (none))) else (none)) = some r := H
                        have A48 := Aside0.mk A480
                        clear A480
                        by_cases c49 : (strOfNums t171).toList = (strOfNums t179).toList
                        · rw [if_pos c49] at H
                          have c49b0 : ((strOfNums t171).toList == (strOfNums t179).toList) = true := beq_iff_eq.mpr c49
                          have c49b1 : ((strOfNums t171).toList != (strOfNums t179).toList) = false := bne_eq_false_iff_eq.mpr c49
                          clear c49
                          replace H := Option.bind_eq_some_iff.mp H
                          obtain ⟨t182, A500, H⟩ := H
                          replace H : (if t182 = true then ((dolmenref5_Ints.f kj25 t151 t162).bind fun t183 => (if t183 = true then ((dolmenlaw13_awake.f).bind fun t184 => (some t184)) else (none))) else (none)) = some r := H
                          have A50 := Aside0.mk A500
                          clear A500
                          by_cases c51 : t182 = true
                          · subst c51
                            have H1 : ((dolmenref5_Ints.f kj25 t151 t162).bind fun t183 => (if t183 = true then ((dolmenlaw13_awake.f).bind fun t184 => (some t184)) else (none))) = some r := by rw [if_pos rfl] at H; exact H
                            clear H
                            have H := H1
                            clear H1
                            replace H := Option.bind_eq_some_iff.mp H
                            obtain ⟨t183, A520, H⟩ := H
                            replace H : (if t183 = true then ((dolmenlaw13_awake.f).bind fun t184 => (some t184)) else (none)) = some r := H
                            have A52 := Aside0.mk A520
                            clear A520
                            by_cases c53 : t183 = true
                            · subst c53
                              have H1 : ((dolmenlaw13_awake.f).bind fun t184 => (some t184)) = some r := by rw [if_pos rfl] at H; exact H
                              clear H
                              have H := H1
                              clear H1
                              replace H := Option.bind_eq_some_iff.mp H
                              obtain ⟨t184, A540, H⟩ := H
                              replace H : (some t184) = some r := H
                              have A54 := Aside0.mk A540
                              clear A540
                              obtain rfl := Option.some.inj H
                              obtain ⟨Ao55, co55, eo55⟩ := Kd.R_slice HO_8.out
                              subst eo55
                              obtain ⟨Ao56, co56, eo56⟩ := Kd.R_slice HO_10.out
                              subst eo56
                              obtain ⟨Ao57, co57, eo57⟩ := Kd.R_slice HO_9.out
                              subst eo57
                              obtain ⟨Ao58, co58, eo58⟩ := Kd.R_slice HO_11.out
                              subst eo58
                              try go_wp2
                              have n0_ := Aside0.mk (Kd.N_drew HO_7.out)
                              have n1_ := Aside0.mk (Kd.R_drew HO_8.out)
                              have n2_ := Aside0.mk (Kd.R_drew HO_9.out)
                              have n3_ := Aside0.mk (Kd.R_drew HO_10.out)
                              have n4_ := Aside0.mk (Kd.R_drew HO_11.out)
                              have n5_ := Aside0.mk (below_drew1 HB.out)
                              clear HO_7
                              clear HO_8
                              clear HO_9
                              clear HO_10
                              clear HO_11
                              clear HB
                              have HO_7 := n0_
                              have HO_8 := n1_
                              have HO_9 := n2_
                              have HO_10 := n3_
                              have HO_11 := n4_
                              have HB := n5_
                              clear n0_ n1_ n2_ n3_ n4_ n5_
                              refine start_ (n := 24) (S := fun w' => True) (ds := []) #[false, false, false, false, false, false, false, false, false, false, false, false, false, false, false, false, false, false, false, false, false, false, false, false] (by kernel_rfl) rfl rfl trivial (fun hHeld => ?_); refine with_tabW dolmenlaw13_FoldEpochs.tab16 dolmenlaw13_FoldEpochs.bits16 (fun HT_ HW_ => ?_)
                              generalize wc.drew = w59 at HO_7 HO_8 HO_9 HO_10 HO_11 HB hHeld ⊢
                              refine pure_ (i := 0) (N := some 90) (v := ?_) (a' := ?_) #[true, false, false, false, false, false, false, false, false, false, false, false, false, false, false, false, false, false, false, false, false, false, false, false] rfl rfl (any_of HT_.out (by kernel_rfl)) (fun _ _ _ h => h) (Or.inl ⟨by rfl, ?_⟩) ?_ ?_
                              rotate_left
                              · intro w'
                                go_simp
                                with_reducible rfl
                              rotate_left
                              · simp only [Act.put, List.setIfInBounds_toArray, List.set_cons_zero, List.set_cons_succ, i64_w, i32_w]
                                rfl
                              refine pure_ (i := 1) (N := some 91) (v := ?_) (a' := ?_) #[true, true, false, false, false, false, false, false, false, false, false, false, false, false, false, false, false, false, false, false, false, false, false, false] rfl rfl (any_of HT_.out (by kernel_rfl)) (fun _ _ _ h => h) (Or.inl ⟨by rfl, ?_⟩) ?_ ?_
                              rotate_left
                              · intro w'
                                go_simp
                                with_reducible rfl
                              rotate_left
                              · simp only [Act.put, List.setIfInBounds_toArray, List.set_cons_zero, List.set_cons_succ, i64_w, i32_w]
                                rfl
                              refine pure_ (i := 4) (N := some 94) (v := ?_) (a' := ?_) #[true, true, false, false, true, false, false, false, false, false, false, false, false, false, false, false, false, false, false, false, false, false, false, false] rfl rfl (any_of HT_.out (by kernel_rfl)) (fun _ _ _ h => h) (Or.inl ⟨by rfl, ?_⟩) ?_ ?_
                              rotate_left
                              · intro w'
                                go_simp
                                with_reducible rfl
                              rotate_left
                              · simp only [Act.put, List.setIfInBounds_toArray, List.set_cons_zero, List.set_cons_succ, i64_w, i32_w]
                                rfl
                              refine pure_ (i := 5) (N := some 95) (v := ?_) (a' := ?_) #[true, true, false, false, true, true, false, false, false, false, false, false, false, false, false, false, false, false, false, false, false, false, false, false] rfl rfl (any_of HT_.out (by kernel_rfl)) (fun _ _ _ h => h) (Or.inl ⟨by rfl, ?_⟩) ?_ ?_
                              rotate_left
                              · intro w'
                                go_simp
                                with_reducible rfl
                              rotate_left
                              · simp only [Act.put, List.setIfInBounds_toArray, List.set_cons_zero, List.set_cons_succ, i64_w, i32_w]
                                rfl
                              refine pure_ (i := 6) (N := some 96) (v := ?_) (a' := ?_) #[true, true, false, false, true, true, true, false, false, false, false, false, false, false, false, false, false, false, false, false, false, false, false, false] rfl rfl (any_of HT_.out (by kernel_rfl)) (fun _ _ _ h => h) (Or.inl ⟨by rfl, ?_⟩) ?_ ?_
                              rotate_left
                              · intro w'
                                go_simp
                                with_reducible rfl
                              rotate_left
                              · simp only [Act.put, List.setIfInBounds_toArray, List.set_cons_zero, List.set_cons_succ, i64_w, i32_w]
                                rfl
                              refine one_ (i := 2) (N := some 92) #[true, true, true, false, true, true, true, false, false, false, false, false, false, false, false, false, false, false, false, false, false, false, false, false] rfl rfl (one_of HT_.out (by kernel_rfl)) (by decide) (fun K hK => ?_)
                              refine goes_ Try.func23 (by kernel_rfl) rfl #[.slice Ao28 t147.length co28, .int .i64 a1] (by rfl) rfl rfl (by (try simp only [List.map_toArray, List.map_cons, List.map_nil]); first | done | rfl | (simp only [List.length_drop, List.length_take]; rfl)) ?_
                              with_reducible refine (fold_File.calls kj25 _ _ t147 a1 t171 _ ?side1 ?side2 A45.out).mono ?_
                              (case side1 => repeat (first | exact (Kd.N_reads' HO_7.out).2.2 | (with_reducible refine Kd.C_alloc ?_ _) | (with_reducible refine Kd.C_drewN ?_ _) | (with_reducible refine Kd.C_drew ?_)))
                              (case side2 => exact (Kd.N_reads' HO_7.out).2.1)
                              rintro e w60 ⟨v172, rfl, ho0, hb⟩
                              refine ⟨_, rfl, ?_⟩
                              have n0_ := Aside0.mk (Kd.N_below (by (with_reducible repeat (first | apply Kd.N_alloc | apply Kd.N_drewN | apply Kd.N_drew)); exact HO_7.out) hb)
                              have n1_ := Aside0.mk (Kd.R_below (by (with_reducible repeat (first | apply Kd.R_alloc | apply Kd.R_drewN | apply Kd.R_drew)); exact HO_8.out) hb)
                              have n2_ := Aside0.mk (Kd.R_below (by (with_reducible repeat (first | apply Kd.R_alloc | apply Kd.R_drewN | apply Kd.R_drew)); exact HO_9.out) hb)
                              have n3_ := Aside0.mk (Kd.R_below (by (with_reducible repeat (first | apply Kd.R_alloc | apply Kd.R_drewN | apply Kd.R_drew)); exact HO_10.out) hb)
                              have n4_ := Aside0.mk (Kd.R_below (by (with_reducible repeat (first | apply Kd.R_alloc | apply Kd.R_drewN | apply Kd.R_drew)); exact HO_11.out) hb)
                              have n5_ := Aside0.mk (Kd.V_lower (Kd.V_mono (ok' := fun k_ => some k_ ≠ (.slice Ao28 t147.length co28 : Value).ownBlock ∧ some k_ ≠ (.slice Ao55 t150.length co55 : Value).ownBlock ∧ some k_ ≠ (.slice Ao57 t151.length co57 : Value).ownBlock ∧ some k_ ≠ (.slice Ao56 t161.length co56 : Value).ownBlock ∧ some k_ ≠ (.slice Ao58 t162.length co58 : Value).ownBlock) ho0 (fun k_ hk_ => ⟨(Kd.fresh' (Kd.N_lt (by (with_reducible repeat (first | apply Kd.N_alloc | apply Kd.N_drewN | apply Kd.N_drew)); exact HO_7.out)) k_ hk_), (Kd.fresh' (Kd.R_lt (by (with_reducible repeat (first | apply Kd.R_alloc | apply Kd.R_drewN | apply Kd.R_drew)); exact HO_8.out)) k_ hk_), (Kd.fresh' (Kd.R_lt (by (with_reducible repeat (first | apply Kd.R_alloc | apply Kd.R_drewN | apply Kd.R_drew)); exact HO_9.out)) k_ hk_), (Kd.fresh' (Kd.R_lt (by (with_reducible repeat (first | apply Kd.R_alloc | apply Kd.R_drewN | apply Kd.R_drew)); exact HO_10.out)) k_ hk_), (Kd.fresh' (Kd.R_lt (by (with_reducible repeat (first | apply Kd.R_alloc | apply Kd.R_drewN | apply Kd.R_drew)); exact HO_11.out)) k_ hk_)⟩)) (below_size (by repeat (first | (with_reducible first | exact HB.out | apply below_alloc | apply pw_below_drewN | apply below_drew1) | exact HB.out))))
                              have n6_ := Aside0.mk (below_step (by repeat (first | (with_reducible first | exact HB.out | apply below_alloc | apply pw_below_drewN | apply below_drew1) | exact HB.out)) hb)
                              clear HO_7
                              clear HO_8
                              clear HO_9
                              clear HO_10
                              clear HO_11
                              clear HB
                              have HO_7 := n0_
                              have HO_8 := n1_
                              have HO_9 := n2_
                              have HO_10 := n3_
                              have HO_11 := n4_
                              have HO173 := n5_
                              have HB := n6_
                              clear n0_ n1_ n2_ n3_ n4_ n5_ n6_
                              (try clear hb)
                              (try clear hb2)
                              (try clear hk)
                              (try clear hi)
                              (try clear ho0)
                              have q61 : (x5_1 : Int) ≤ ((t147.length : Int) : Int) := of_decide_eq_true (by first | (with_reducible assumption) | assumption)
                              obtain ⟨i061, hi061, _, hsz61, _⟩ := info_parts info50
                              have hroom61 : t147.length ≤ co28 := (Kd.N_reads' HO_7.out).2.1
                              have hC61 : Kd.F k50 _ _ Ao28 t147.length t147 := (Kd.V_at (base := w.heap.size) (Kd.N_V HO_7.out)).2.2
                              have hcut61 := cut_to (P := Try.prog) 27 50 .i64 Try.underlying27 hi061 Ao28 t147.length co28 x5_1 (of_decide_eq_true (by first | (with_reducible assumption) | assumption)) q61 hroom61
                              have hr61 := Kd.F_take (m := (x5_1 : Int).toNat) hC61 (by omega)
                              have hy61 : y174.length = (x5_1 : Int).toNat := (by rw [Ny174.out, List.length_take]; omega)
                              rw [← Ny174.out] at hr61
                              rw [← hy61] at hcut61
                              have HO178 := Aside0.mk (show Kd.V k50 50 _ w.heap.size _ (.slice Ao28 y174.length co28) y174 from Kd.V_mk (by omega) hr61)
                              have HC178 := Aside0.mk (show y174.length ≤ co28 from by omega)
                              clear hr61 hC61 hroom61 hi061 hsz61
                              have KY61 := Aside0.mk hy61
                              clear hy61
                              replace q61 := eq_true q61
                              refine hK.out _ _ trivial (fun hHeld => ?_)
                              clear hK K
                              refine norm_ (a' := ?_) ?_ ?_
                              rotate_left
                              · show Act.put _ (some 92) _ = _
                                simp only [Act.put, List.setIfInBounds_toArray, List.set_cons_zero, List.set_cons_succ, i64_w, i32_w]
                                rfl
                              refine join_ (σ := Value) 15 #[true, true, true, true, true, true, true, true, true, false, false, false, false, false, false, false, false, false, false, false, false, false, false, false] (fun s_ => [(93, .string (strOfNums t171)), (97, s_), (98, .string (strOfNums t179))]) (fun s_ w' => (Kd.V (Kd.int .u8) 5 w' w.heap.size (fun k_ => some k_ ≠ (.slice Ao56 t161.length co56 : Value).ownBlock ∧ some k_ ≠ (.slice Ao58 t162.length co58 : Value).ownBlock ∧ some k_ ≠ (.slice Ao28 t147.length co28 : Value).ownBlock ∧ some k_ ≠ (.slice Ao55 t150.length co55 : Value).ownBlock ∧ some k_ ≠ (.slice Ao57 t151.length co57 : Value).ownBlock) v172 t171) ∧ (Kd.V k50 50 w' w.heap.size (fun k_ => some k_ ≠ (.slice Ao56 t161.length co56 : Value).ownBlock ∧ some k_ ≠ (.slice Ao58 t162.length co58 : Value).ownBlock ∧ some k_ ≠ (.slice Ao55 t150.length co55 : Value).ownBlock ∧ some k_ ≠ (.slice Ao57 t151.length co57 : Value).ownBlock) (.slice Ao28 y174.length co28) y174) ∧ (Kd.V (Kd.int .u8) 5 w' w.heap.size (fun k_ => some k_ ≠ (.slice Ao56 t161.length co56 : Value).ownBlock ∧ some k_ ≠ (.slice Ao58 t162.length co58 : Value).ownBlock ∧ some k_ ≠ (.slice Ao28 t147.length co28 : Value).ownBlock ∧ some k_ ≠ (.slice Ao55 t150.length co55 : Value).ownBlock ∧ some k_ ≠ (.slice Ao57 t151.length co57 : Value).ownBlock) s_ t179) ∧ (Kd.R Kd.string 9 w' w.heap.size (fun k_ => some k_ ≠ (.slice Ao55 t150.length co55 : Value).ownBlock) (.slice Ao56 t161.length co56) t161) ∧ (Kd.R (Kd.int .i64) 3 w' w.heap.size (fun k_ => some k_ ≠ (.slice Ao57 t151.length co57 : Value).ownBlock) (.slice Ao58 t162.length co58) t162) ∧ (Kd.N k50 50 w' w.heap.size (fun k_ => some k_ ≠ (.slice Ao56 t161.length co56 : Value).ownBlock ∧ some k_ ≠ (.slice Ao58 t162.length co58 : Value).ownBlock ∧ some k_ ≠ (.slice Ao55 t150.length co55 : Value).ownBlock ∧ some k_ ≠ (.slice Ao57 t151.length co57 : Value).ownBlock) (.slice Ao28 t147.length co28) t147) ∧ (Kd.R Kd.string 9 w' w.heap.size (fun k_ => some k_ ≠ (.slice Ao56 t161.length co56 : Value).ownBlock) (.slice Ao55 t150.length co55) t150) ∧ (Kd.R (Kd.int .i64) 3 w' w.heap.size (fun k_ => some k_ ≠ (.slice Ao58 t162.length co58 : Value).ownBlock) (.slice Ao57 t151.length co57) t151) ∧ (Below w.heap.size w w')) ?_ ?_
                              rotate_left
                              · intro hCont
                                refine two_ (i := 3) (j := 7) (Ni := some 93) (Nj := some 97) #[true, true, true, true, true, true, true, false, false, false, false, false, false, false, false, false, false, false, false, false, false, false, false, false] #[true, true, true, false, true, true, true, true, false, false, false, false, false, false, false, false, false, false, false, false, false, false, false, false] rfl rfl rfl rfl (two_of HT_.out (by kernel_rfl)) (by decide) (by decide) (fun K hK => ?_) (fun K hK => ?_)
                                · skip
                                  first | have hcv62 := own_string (P := Try.prog) Try.underlying30 Try.underlying5 Try.underlying9 (Kd.own_of_R HO173.out) | have hcv62 := vstr_Ex8 Try.underlying30 Try.underlying5 Try.underlying9 HO173.out
                                  refine value_ (w1 := ?_) (v := ?_) (by rfl) rfl ?_ ?_
                                  rotate_left 2
                                  · go_simp
                                    constructor
                                    · rfl
                                    · rfl
                                  clear hcv62
                                  refine hK.out _ _ trivial (fun hHeld => ?_)
                                  clear hK K
                                  refine norm_ (a' := ?_) ?_ ?_
                                  rotate_left
                                  · show Act.put _ (some 93) _ = _
                                    simp only [Act.put, List.setIfInBounds_toArray, List.set_cons_zero, List.set_cons_succ, i64_w, i32_w]
                                    rfl
                                  refine one_ (i := 7) (N := some 97) #[true, true, true, true, true, true, true, true, false, false, false, false, false, false, false, false, false, false, false, false, false, false, false, false] rfl rfl (one_of HT_.out (by kernel_rfl)) (by decide) (fun K hK => ?_)
                                  refine goes_ Try.func23 (by kernel_rfl) rfl #[.slice Ao28 y174.length co28, .int .i64 1099511627776] (by rfl) rfl rfl (by (try simp only [List.map_toArray, List.map_cons, List.map_nil]); first | done | rfl | (rw [show y174.length = y156.length from by rw [Ny174.out, Ny156.out]] <;> rfl) | (simp only [List.length_drop, List.length_take]; rfl)) ?_
                                  with_reducible refine (fold_File.calls kj25 _ _ y174 1099511627776 t179 _ ?side1 ?side2 A48.out).mono ?_
                                  (case side1 => repeat (first | exact (Kd.V_reads' HO178.out).2.2 | (with_reducible refine Kd.C_alloc ?_ _) | (with_reducible refine Kd.C_drewN ?_ _) | (with_reducible refine Kd.C_drew ?_)))
                                  (case side2 => exact (Kd.V_reads' HO178.out).2.1)
                                  rintro e w63 ⟨v180, rfl, ho0, hb⟩
                                  refine ⟨_, rfl, ?_⟩
                                  have n0_ := Aside0.mk (Kd.N_below (by (with_reducible repeat (first | apply Kd.N_alloc | apply Kd.N_drewN | apply Kd.N_drew)); exact HO_7.out) hb)
                                  have n1_ := Aside0.mk (Kd.R_below (by (with_reducible repeat (first | apply Kd.R_alloc | apply Kd.R_drewN | apply Kd.R_drew)); exact HO_8.out) hb)
                                  have n2_ := Aside0.mk (Kd.R_below (by (with_reducible repeat (first | apply Kd.R_alloc | apply Kd.R_drewN | apply Kd.R_drew)); exact HO_9.out) hb)
                                  have n3_ := Aside0.mk (Kd.R_below (by (with_reducible repeat (first | apply Kd.R_alloc | apply Kd.R_drewN | apply Kd.R_drew)); exact HO_10.out) hb)
                                  have n4_ := Aside0.mk (Kd.R_below (by (with_reducible repeat (first | apply Kd.R_alloc | apply Kd.R_drewN | apply Kd.R_drew)); exact HO_11.out) hb)
                                  have n5_ := Aside0.mk (Kd.V_below (by (with_reducible repeat (first | apply Kd.V_alloc | apply Kd.V_drewN | apply Kd.V_drew)); exact HO173.out) hb)
                                  have n6_ := Aside0.mk (Kd.V_below (by (with_reducible repeat (first | apply Kd.V_alloc | apply Kd.V_drewN | apply Kd.V_drew)); exact HO178.out) hb)
                                  have n7_ := Aside0.mk (Kd.V_lower (Kd.V_mono (ok' := fun k_ => some k_ ≠ (.slice Ao28 t147.length co28 : Value).ownBlock ∧ some k_ ≠ (.slice Ao55 t150.length co55 : Value).ownBlock ∧ some k_ ≠ (.slice Ao57 t151.length co57 : Value).ownBlock ∧ some k_ ≠ (.slice Ao56 t161.length co56 : Value).ownBlock ∧ some k_ ≠ (.slice Ao58 t162.length co58 : Value).ownBlock) ho0 (fun k_ hk_ => ⟨(Kd.fresh' (Kd.N_lt (by (with_reducible repeat (first | apply Kd.N_alloc | apply Kd.N_drewN | apply Kd.N_drew)); exact HO_7.out)) k_ hk_), (Kd.fresh' (Kd.R_lt (by (with_reducible repeat (first | apply Kd.R_alloc | apply Kd.R_drewN | apply Kd.R_drew)); exact HO_8.out)) k_ hk_), (Kd.fresh' (Kd.R_lt (by (with_reducible repeat (first | apply Kd.R_alloc | apply Kd.R_drewN | apply Kd.R_drew)); exact HO_9.out)) k_ hk_), (Kd.fresh' (Kd.R_lt (by (with_reducible repeat (first | apply Kd.R_alloc | apply Kd.R_drewN | apply Kd.R_drew)); exact HO_10.out)) k_ hk_), (Kd.fresh' (Kd.R_lt (by (with_reducible repeat (first | apply Kd.R_alloc | apply Kd.R_drewN | apply Kd.R_drew)); exact HO_11.out)) k_ hk_)⟩)) (below_size (by repeat (first | (with_reducible first | exact HB.out | apply below_alloc | apply pw_below_drewN | apply below_drew1) | exact HB.out))))
                                  have n8_ := Aside0.mk (below_step (by repeat (first | (with_reducible first | exact HB.out | apply below_alloc | apply pw_below_drewN | apply below_drew1) | exact HB.out)) hb)
                                  clear HO_7
                                  clear HO_8
                                  clear HO_9
                                  clear HO_10
                                  clear HO_11
                                  clear HO173
                                  clear HO178
                                  clear HB
                                  have HO_7 := n0_
                                  have HO_8 := n1_
                                  have HO_9 := n2_
                                  have HO_10 := n3_
                                  have HO_11 := n4_
                                  have HO173 := n5_
                                  have HO178 := n6_
                                  have HO181 := n7_
                                  have HB := n8_
                                  clear n0_ n1_ n2_ n3_ n4_ n5_ n6_ n7_ n8_
                                  (try clear hb)
                                  (try clear hb2)
                                  (try clear hk)
                                  (try clear hi)
                                  (try clear ho0)
                                  refine hK.out _ _ trivial (fun hHeld => ?_)
                                  clear hK K
                                  refine norm_ (a' := ?_) ?_ ?_
                                  rotate_left
                                  · show Act.put _ (some 97) _ = _
                                    simp only [Act.put, List.setIfInBounds_toArray, List.set_cons_zero, List.set_cons_succ, i64_w, i32_w]
                                    rfl
                                  refine one_ (i := 8) (N := some 98) #[true, true, true, true, true, true, true, true, true, false, false, false, false, false, false, false, false, false, false, false, false, false, false, false] rfl rfl (one_of HT_.out (by kernel_rfl)) (by decide) (fun K hK => ?_)
                                  first | have hcv64 := own_string (P := Try.prog) Try.underlying30 Try.underlying5 Try.underlying9 (Kd.own_of_R HO181.out) | have hcv64 := vstr_Ex8 Try.underlying30 Try.underlying5 Try.underlying9 HO181.out
                                  refine value_ (w1 := ?_) (v := ?_) (by rfl) rfl ?_ ?_
                                  rotate_left 2
                                  · go_simp
                                    constructor
                                    · rfl
                                    · rfl
                                  clear hcv64
                                  refine hK.out _ _ trivial (fun hHeld => ?_)
                                  clear hK K
                                  refine norm_ (a' := ?_) ?_ ?_
                                  rotate_left
                                  · show Act.put _ (some 98) _ = _
                                    simp only [Act.put, List.setIfInBounds_toArray, List.set_cons_zero, List.set_cons_succ, i64_w, i32_w]
                                    rfl
                                  exact norm_ (by simp only [putAll, Act.put, List.setIfInBounds_toArray, List.set_cons_zero, List.set_cons_succ]) (hCont (v180) _ ⟨(by (with_reducible repeat (first | apply Kd.V_alloc | apply Kd.V_drewN | apply Kd.V_drew)); exact Kd.V_mono HO173.out (fun _ hk => ⟨hk.2.2.2.1, ⟨hk.2.2.2.2, ⟨hk.1, ⟨hk.2.1, hk.2.2.1⟩⟩⟩⟩)), (by (with_reducible repeat (first | apply Kd.V_alloc | apply Kd.V_drewN | apply Kd.V_drew)); exact Kd.V_mono HO178.out (fun _ hk => ⟨hk.2.2.1, ⟨hk.2.2.2, ⟨hk.1, hk.2.1⟩⟩⟩)), (by (with_reducible repeat (first | apply Kd.V_alloc | apply Kd.V_drewN | apply Kd.V_drew)); exact Kd.V_mono HO181.out (fun _ hk => ⟨hk.2.2.2.1, ⟨hk.2.2.2.2, ⟨hk.1, ⟨hk.2.1, hk.2.2.1⟩⟩⟩⟩)), (by (with_reducible repeat (first | apply Kd.R_alloc | apply Kd.R_drewN | apply Kd.R_drew)); exact HO_10.out), (by (with_reducible repeat (first | apply Kd.R_alloc | apply Kd.R_drewN | apply Kd.R_drew)); exact HO_11.out), (by (with_reducible repeat (first | apply Kd.N_alloc | apply Kd.N_drewN | apply Kd.N_drew)); exact Kd.N_mono HO_7.out (fun _ hk => ⟨hk.2.2.1, ⟨hk.2.2.2, ⟨hk.1, hk.2.1⟩⟩⟩)), (by (with_reducible repeat (first | apply Kd.R_alloc | apply Kd.R_drewN | apply Kd.R_drew)); exact HO_8.out), (by (with_reducible repeat (first | apply Kd.R_alloc | apply Kd.R_drewN | apply Kd.R_drew)); exact HO_9.out), (by repeat (first | (with_reducible first | exact HB.out | apply below_alloc | apply pw_below_drewN | apply below_drew1) | exact HB.out))⟩)
                                · skip
                                  refine goes_ Try.func23 (by kernel_rfl) rfl #[.slice Ao28 y174.length co28, .int .i64 1099511627776] (by rfl) rfl rfl (by (try simp only [List.map_toArray, List.map_cons, List.map_nil]); first | done | rfl | (rw [show y174.length = y156.length from by rw [Ny174.out, Ny156.out]] <;> rfl) | (simp only [List.length_drop, List.length_take]; rfl)) ?_
                                  with_reducible refine (fold_File.calls kj25 _ _ y174 1099511627776 t179 _ ?side1 ?side2 A48.out).mono ?_
                                  (case side1 => repeat (first | exact (Kd.V_reads' HO178.out).2.2 | (with_reducible refine Kd.C_alloc ?_ _) | (with_reducible refine Kd.C_drewN ?_ _) | (with_reducible refine Kd.C_drew ?_)))
                                  (case side2 => exact (Kd.V_reads' HO178.out).2.1)
                                  rintro e w62 ⟨v180, rfl, ho0, hb⟩
                                  refine ⟨_, rfl, ?_⟩
                                  have n0_ := Aside0.mk (Kd.N_below (by (with_reducible repeat (first | apply Kd.N_alloc | apply Kd.N_drewN | apply Kd.N_drew)); exact HO_7.out) hb)
                                  have n1_ := Aside0.mk (Kd.R_below (by (with_reducible repeat (first | apply Kd.R_alloc | apply Kd.R_drewN | apply Kd.R_drew)); exact HO_8.out) hb)
                                  have n2_ := Aside0.mk (Kd.R_below (by (with_reducible repeat (first | apply Kd.R_alloc | apply Kd.R_drewN | apply Kd.R_drew)); exact HO_9.out) hb)
                                  have n3_ := Aside0.mk (Kd.R_below (by (with_reducible repeat (first | apply Kd.R_alloc | apply Kd.R_drewN | apply Kd.R_drew)); exact HO_10.out) hb)
                                  have n4_ := Aside0.mk (Kd.R_below (by (with_reducible repeat (first | apply Kd.R_alloc | apply Kd.R_drewN | apply Kd.R_drew)); exact HO_11.out) hb)
                                  have n5_ := Aside0.mk (Kd.V_below (by (with_reducible repeat (first | apply Kd.V_alloc | apply Kd.V_drewN | apply Kd.V_drew)); exact HO173.out) hb)
                                  have n6_ := Aside0.mk (Kd.V_below (by (with_reducible repeat (first | apply Kd.V_alloc | apply Kd.V_drewN | apply Kd.V_drew)); exact HO178.out) hb)
                                  have n7_ := Aside0.mk (Kd.V_lower (Kd.V_mono (ok' := fun k_ => some k_ ≠ (.slice Ao28 t147.length co28 : Value).ownBlock ∧ some k_ ≠ (.slice Ao55 t150.length co55 : Value).ownBlock ∧ some k_ ≠ (.slice Ao57 t151.length co57 : Value).ownBlock ∧ some k_ ≠ (.slice Ao56 t161.length co56 : Value).ownBlock ∧ some k_ ≠ (.slice Ao58 t162.length co58 : Value).ownBlock) ho0 (fun k_ hk_ => ⟨(Kd.fresh' (Kd.N_lt (by (with_reducible repeat (first | apply Kd.N_alloc | apply Kd.N_drewN | apply Kd.N_drew)); exact HO_7.out)) k_ hk_), (Kd.fresh' (Kd.R_lt (by (with_reducible repeat (first | apply Kd.R_alloc | apply Kd.R_drewN | apply Kd.R_drew)); exact HO_8.out)) k_ hk_), (Kd.fresh' (Kd.R_lt (by (with_reducible repeat (first | apply Kd.R_alloc | apply Kd.R_drewN | apply Kd.R_drew)); exact HO_9.out)) k_ hk_), (Kd.fresh' (Kd.R_lt (by (with_reducible repeat (first | apply Kd.R_alloc | apply Kd.R_drewN | apply Kd.R_drew)); exact HO_10.out)) k_ hk_), (Kd.fresh' (Kd.R_lt (by (with_reducible repeat (first | apply Kd.R_alloc | apply Kd.R_drewN | apply Kd.R_drew)); exact HO_11.out)) k_ hk_)⟩)) (below_size (by repeat (first | (with_reducible first | exact HB.out | apply below_alloc | apply pw_below_drewN | apply below_drew1) | exact HB.out))))
                                  have n8_ := Aside0.mk (below_step (by repeat (first | (with_reducible first | exact HB.out | apply below_alloc | apply pw_below_drewN | apply below_drew1) | exact HB.out)) hb)
                                  clear HO_7
                                  clear HO_8
                                  clear HO_9
                                  clear HO_10
                                  clear HO_11
                                  clear HO173
                                  clear HO178
                                  clear HB
                                  have HO_7 := n0_
                                  have HO_8 := n1_
                                  have HO_9 := n2_
                                  have HO_10 := n3_
                                  have HO_11 := n4_
                                  have HO173 := n5_
                                  have HO178 := n6_
                                  have HO181 := n7_
                                  have HB := n8_
                                  clear n0_ n1_ n2_ n3_ n4_ n5_ n6_ n7_ n8_
                                  (try clear hb)
                                  (try clear hb2)
                                  (try clear hk)
                                  (try clear hi)
                                  (try clear ho0)
                                  refine hK.out _ _ trivial (fun hHeld => ?_)
                                  clear hK K
                                  refine norm_ (a' := ?_) ?_ ?_
                                  rotate_left
                                  · show Act.put _ (some 97) _ = _
                                    simp only [Act.put, List.setIfInBounds_toArray, List.set_cons_zero, List.set_cons_succ, i64_w, i32_w]
                                    rfl
                                  refine two_ (i := 3) (j := 8) (Ni := some 93) (Nj := some 98) #[true, true, true, true, true, true, true, true, false, false, false, false, false, false, false, false, false, false, false, false, false, false, false, false] #[true, true, true, false, true, true, true, true, true, false, false, false, false, false, false, false, false, false, false, false, false, false, false, false] rfl rfl rfl rfl (two_of HT_.out (by kernel_rfl)) (by decide) (by decide) (fun K hK => ?_) (fun K hK => ?_)
                                  · skip
                                    first | have hcv63 := own_string (P := Try.prog) Try.underlying30 Try.underlying5 Try.underlying9 (Kd.own_of_R HO173.out) | have hcv63 := vstr_Ex8 Try.underlying30 Try.underlying5 Try.underlying9 HO173.out
                                    refine value_ (w1 := ?_) (v := ?_) (by rfl) rfl ?_ ?_
                                    rotate_left 2
                                    · go_simp
                                      constructor
                                      · rfl
                                      · rfl
                                    clear hcv63
                                    refine hK.out _ _ trivial (fun hHeld => ?_)
                                    clear hK K
                                    refine norm_ (a' := ?_) ?_ ?_
                                    rotate_left
                                    · show Act.put _ (some 93) _ = _
                                      simp only [Act.put, List.setIfInBounds_toArray, List.set_cons_zero, List.set_cons_succ, i64_w, i32_w]
                                      rfl
                                    refine one_ (i := 8) (N := some 98) #[true, true, true, true, true, true, true, true, true, false, false, false, false, false, false, false, false, false, false, false, false, false, false, false] rfl rfl (one_of HT_.out (by kernel_rfl)) (by decide) (fun K hK => ?_)
                                    first | have hcv64 := own_string (P := Try.prog) Try.underlying30 Try.underlying5 Try.underlying9 (Kd.own_of_R HO181.out) | have hcv64 := vstr_Ex8 Try.underlying30 Try.underlying5 Try.underlying9 HO181.out
                                    refine value_ (w1 := ?_) (v := ?_) (by rfl) rfl ?_ ?_
                                    rotate_left 2
                                    · go_simp
                                      constructor
                                      · rfl
                                      · rfl
                                    clear hcv64
                                    refine hK.out _ _ trivial (fun hHeld => ?_)
                                    clear hK K
                                    refine norm_ (a' := ?_) ?_ ?_
                                    rotate_left
                                    · show Act.put _ (some 98) _ = _
                                      simp only [Act.put, List.setIfInBounds_toArray, List.set_cons_zero, List.set_cons_succ, i64_w, i32_w]
                                      rfl
                                    exact norm_ (by simp only [putAll, Act.put, List.setIfInBounds_toArray, List.set_cons_zero, List.set_cons_succ]) (hCont (v180) _ ⟨(by (with_reducible repeat (first | apply Kd.V_alloc | apply Kd.V_drewN | apply Kd.V_drew)); exact Kd.V_mono HO173.out (fun _ hk => ⟨hk.2.2.2.1, ⟨hk.2.2.2.2, ⟨hk.1, ⟨hk.2.1, hk.2.2.1⟩⟩⟩⟩)), (by (with_reducible repeat (first | apply Kd.V_alloc | apply Kd.V_drewN | apply Kd.V_drew)); exact Kd.V_mono HO178.out (fun _ hk => ⟨hk.2.2.1, ⟨hk.2.2.2, ⟨hk.1, hk.2.1⟩⟩⟩)), (by (with_reducible repeat (first | apply Kd.V_alloc | apply Kd.V_drewN | apply Kd.V_drew)); exact Kd.V_mono HO181.out (fun _ hk => ⟨hk.2.2.2.1, ⟨hk.2.2.2.2, ⟨hk.1, ⟨hk.2.1, hk.2.2.1⟩⟩⟩⟩)), (by (with_reducible repeat (first | apply Kd.R_alloc | apply Kd.R_drewN | apply Kd.R_drew)); exact HO_10.out), (by (with_reducible repeat (first | apply Kd.R_alloc | apply Kd.R_drewN | apply Kd.R_drew)); exact HO_11.out), (by (with_reducible repeat (first | apply Kd.N_alloc | apply Kd.N_drewN | apply Kd.N_drew)); exact Kd.N_mono HO_7.out (fun _ hk => ⟨hk.2.2.1, ⟨hk.2.2.2, ⟨hk.1, hk.2.1⟩⟩⟩)), (by (with_reducible repeat (first | apply Kd.R_alloc | apply Kd.R_drewN | apply Kd.R_drew)); exact HO_8.out), (by (with_reducible repeat (first | apply Kd.R_alloc | apply Kd.R_drewN | apply Kd.R_drew)); exact HO_9.out), (by repeat (first | (with_reducible first | exact HB.out | apply below_alloc | apply pw_below_drewN | apply below_drew1) | exact HB.out))⟩)
                                  · skip
                                    first | have hcv63 := own_string (P := Try.prog) Try.underlying30 Try.underlying5 Try.underlying9 (Kd.own_of_R HO181.out) | have hcv63 := vstr_Ex8 Try.underlying30 Try.underlying5 Try.underlying9 HO181.out
                                    refine value_ (w1 := ?_) (v := ?_) (by rfl) rfl ?_ ?_
                                    rotate_left 2
                                    · go_simp
                                      constructor
                                      · rfl
                                      · rfl
                                    clear hcv63
                                    refine hK.out _ _ trivial (fun hHeld => ?_)
                                    clear hK K
                                    refine norm_ (a' := ?_) ?_ ?_
                                    rotate_left
                                    · show Act.put _ (some 98) _ = _
                                      simp only [Act.put, List.setIfInBounds_toArray, List.set_cons_zero, List.set_cons_succ, i64_w, i32_w]
                                      rfl
                                    refine one_ (i := 3) (N := some 93) #[true, true, true, true, true, true, true, true, true, false, false, false, false, false, false, false, false, false, false, false, false, false, false, false] rfl rfl (one_of HT_.out (by kernel_rfl)) (by decide) (fun K hK => ?_)
                                    first | have hcv64 := own_string (P := Try.prog) Try.underlying30 Try.underlying5 Try.underlying9 (Kd.own_of_R HO173.out) | have hcv64 := vstr_Ex8 Try.underlying30 Try.underlying5 Try.underlying9 HO173.out
                                    refine value_ (w1 := ?_) (v := ?_) (by rfl) rfl ?_ ?_
                                    rotate_left 2
                                    · go_simp
                                      constructor
                                      · rfl
                                      · rfl
                                    clear hcv64
                                    refine hK.out _ _ trivial (fun hHeld => ?_)
                                    clear hK K
                                    refine norm_ (a' := ?_) ?_ ?_
                                    rotate_left
                                    · show Act.put _ (some 93) _ = _
                                      simp only [Act.put, List.setIfInBounds_toArray, List.set_cons_zero, List.set_cons_succ, i64_w, i32_w]
                                      rfl
                                    exact norm_ (by simp only [putAll, Act.put, List.setIfInBounds_toArray, List.set_cons_zero, List.set_cons_succ]) (hCont (v180) _ ⟨(by (with_reducible repeat (first | apply Kd.V_alloc | apply Kd.V_drewN | apply Kd.V_drew)); exact Kd.V_mono HO173.out (fun _ hk => ⟨hk.2.2.2.1, ⟨hk.2.2.2.2, ⟨hk.1, ⟨hk.2.1, hk.2.2.1⟩⟩⟩⟩)), (by (with_reducible repeat (first | apply Kd.V_alloc | apply Kd.V_drewN | apply Kd.V_drew)); exact Kd.V_mono HO178.out (fun _ hk => ⟨hk.2.2.1, ⟨hk.2.2.2, ⟨hk.1, hk.2.1⟩⟩⟩)), (by (with_reducible repeat (first | apply Kd.V_alloc | apply Kd.V_drewN | apply Kd.V_drew)); exact Kd.V_mono HO181.out (fun _ hk => ⟨hk.2.2.2.1, ⟨hk.2.2.2.2, ⟨hk.1, ⟨hk.2.1, hk.2.2.1⟩⟩⟩⟩)), (by (with_reducible repeat (first | apply Kd.R_alloc | apply Kd.R_drewN | apply Kd.R_drew)); exact HO_10.out), (by (with_reducible repeat (first | apply Kd.R_alloc | apply Kd.R_drewN | apply Kd.R_drew)); exact HO_11.out), (by (with_reducible repeat (first | apply Kd.N_alloc | apply Kd.N_drewN | apply Kd.N_drew)); exact Kd.N_mono HO_7.out (fun _ hk => ⟨hk.2.2.1, ⟨hk.2.2.2, ⟨hk.1, hk.2.1⟩⟩⟩)), (by (with_reducible repeat (first | apply Kd.R_alloc | apply Kd.R_drewN | apply Kd.R_drew)); exact HO_8.out), (by (with_reducible repeat (first | apply Kd.R_alloc | apply Kd.R_drewN | apply Kd.R_drew)); exact HO_9.out), (by repeat (first | (with_reducible first | exact HB.out | apply below_alloc | apply pw_below_drewN | apply below_drew1) | exact HB.out))⟩)
                              rintro v180 w65 ⟨h0_, h1_, h2_, h3_, h4_, h5_, h6_, h7_, h8_⟩
                              have n0_ : Aside0 (Kd.V (Kd.int .u8) 5 w65 w.heap.size (fun k_ => some k_ ≠ (.slice Ao56 t161.length co56 : Value).ownBlock ∧ some k_ ≠ (.slice Ao58 t162.length co58 : Value).ownBlock ∧ some k_ ≠ (.slice Ao28 t147.length co28 : Value).ownBlock ∧ some k_ ≠ (.slice Ao55 t150.length co55 : Value).ownBlock ∧ some k_ ≠ (.slice Ao57 t151.length co57 : Value).ownBlock) v172 t171) := ⟨h0_⟩
                              have n1_ : Aside0 (Kd.V k50 50 w65 w.heap.size (fun k_ => some k_ ≠ (.slice Ao56 t161.length co56 : Value).ownBlock ∧ some k_ ≠ (.slice Ao58 t162.length co58 : Value).ownBlock ∧ some k_ ≠ (.slice Ao55 t150.length co55 : Value).ownBlock ∧ some k_ ≠ (.slice Ao57 t151.length co57 : Value).ownBlock) (.slice Ao28 y174.length co28) y174) := ⟨h1_⟩
                              have n2_ : Aside0 (Kd.V (Kd.int .u8) 5 w65 w.heap.size (fun k_ => some k_ ≠ (.slice Ao56 t161.length co56 : Value).ownBlock ∧ some k_ ≠ (.slice Ao58 t162.length co58 : Value).ownBlock ∧ some k_ ≠ (.slice Ao28 t147.length co28 : Value).ownBlock ∧ some k_ ≠ (.slice Ao55 t150.length co55 : Value).ownBlock ∧ some k_ ≠ (.slice Ao57 t151.length co57 : Value).ownBlock) v180 t179) := ⟨h2_⟩
                              have n3_ : Aside0 (Kd.R Kd.string 9 w65 w.heap.size (fun k_ => some k_ ≠ (.slice Ao55 t150.length co55 : Value).ownBlock) (.slice Ao56 t161.length co56) t161) := ⟨h3_⟩
                              have n4_ : Aside0 (Kd.R (Kd.int .i64) 3 w65 w.heap.size (fun k_ => some k_ ≠ (.slice Ao57 t151.length co57 : Value).ownBlock) (.slice Ao58 t162.length co58) t162) := ⟨h4_⟩
                              have n5_ : Aside0 (Kd.N k50 50 w65 w.heap.size (fun k_ => some k_ ≠ (.slice Ao56 t161.length co56 : Value).ownBlock ∧ some k_ ≠ (.slice Ao58 t162.length co58 : Value).ownBlock ∧ some k_ ≠ (.slice Ao55 t150.length co55 : Value).ownBlock ∧ some k_ ≠ (.slice Ao57 t151.length co57 : Value).ownBlock) (.slice Ao28 t147.length co28) t147) := ⟨h5_⟩
                              have n6_ : Aside0 (Kd.R Kd.string 9 w65 w.heap.size (fun k_ => some k_ ≠ (.slice Ao56 t161.length co56 : Value).ownBlock) (.slice Ao55 t150.length co55) t150) := ⟨h6_⟩
                              have n7_ : Aside0 (Kd.R (Kd.int .i64) 3 w65 w.heap.size (fun k_ => some k_ ≠ (.slice Ao58 t162.length co58 : Value).ownBlock) (.slice Ao57 t151.length co57) t151) := ⟨h7_⟩
                              have n8_ : Aside0 (Below w.heap.size w w65) := ⟨h8_⟩
                              clear HO_7
                              clear HO_8
                              clear HO_9
                              clear HO_10
                              clear HO_11
                              clear HB
                              clear h0_ h1_ h2_ h3_ h4_ h5_ h6_ h7_ h8_
                              have HO173 := n0_
                              have HO178 := n1_
                              have HO181 := n2_
                              have HO_10 := n3_
                              have HO_11 := n4_
                              have HO_7 := n5_
                              have HO_8 := n6_
                              have HO_9 := n7_
                              have HB := n8_
                              clear n0_ n1_ n2_ n3_ n4_ n5_ n6_ n7_ n8_
                              have hHeld := trivial
                              refine norm_ (a' := ?_) ?_ ?_
                              rotate_left
                              · simp only [putAll, Act.put, List.setIfInBounds_toArray, List.set_cons_zero, List.set_cons_succ]
                                rfl
                              refine pure_ (i := 9) (N := some 99) (v := ?_) (a' := ?_) #[true, true, true, true, true, true, true, true, true, true, false, false, false, false, false, false, false, false, false, false, false, false, false, false] rfl rfl (any_of HT_.out (by kernel_rfl)) (fun _ _ _ h => h) (Or.inl ⟨by rfl, ?_⟩) ?_ ?_
                              rotate_left
                              · intro w'
                                go_simp
                                with_reducible rfl
                              rotate_left
                              · simp only [Act.put, List.setIfInBounds_toArray, List.set_cons_zero, List.set_cons_succ, i64_w, i32_w]
                                rfl
                              refine pure_ (i := 10) (N := some 100) (v := ?_) (a' := ?_) #[true, true, true, true, true, true, true, true, true, true, true, false, false, false, false, false, false, false, false, false, false, false, false, false] rfl rfl (any_of HT_.out (by kernel_rfl)) (fun _ _ _ h => h) (Or.inl ⟨by rfl, ?_⟩) ?_ ?_
                              rotate_left
                              · intro w'
                                go_simp
                                with_reducible rfl
                              rotate_left
                              · simp only [Act.put, List.setIfInBounds_toArray, List.set_cons_zero, List.set_cons_succ, i64_w, i32_w]
                                rfl
                              refine pure_ (i := 11) (N := some 101) (v := ?_) (a' := ?_) #[true, true, true, true, true, true, true, true, true, true, true, true, false, false, false, false, false, false, false, false, false, false, false, false] rfl rfl (any_of HT_.out (by kernel_rfl)) (fun _ _ _ h => h) (Or.inl ⟨by rfl, ?_⟩) ?_ ?_
                              rotate_left
                              · intro w'
                                go_simp
                                with_reducible rfl
                              rotate_left
                              · simp only [Act.put, List.setIfInBounds_toArray, List.set_cons_zero, List.set_cons_succ, i64_w, i32_w]
                                rfl
                              refine pure_ (i := 12) (N := some 102) (v := ?_) (a' := ?_) #[true, true, true, true, true, true, true, true, true, true, true, true, true, false, false, false, false, false, false, false, false, false, false, false] rfl rfl (any_of HT_.out (by kernel_rfl)) (fun _ _ _ h => h) (Or.inl ⟨by rfl, ?_⟩) ?_ ?_
                              rotate_left
                              · intro w'
                                go_simp
                                with_reducible rfl
                              rotate_left
                              · simp only [Act.put, List.setIfInBounds_toArray, List.set_cons_zero, List.set_cons_succ, i64_w, i32_w]
                                rfl
                              refine one_ (i := 13) (N := some 103) #[true, true, true, true, true, true, true, true, true, true, true, true, true, true, false, false, false, false, false, false, false, false, false, false] rfl rfl (one_of HT_.out (by kernel_rfl)) (by decide) (fun K hK => ?_)
                              refine goes_ Try.func38 (by kernel_rfl) rfl #[.slice Ao55 t150.length co55, .slice Ao56 t161.length co56] (by rfl) rfl rfl (by (try simp only [List.map_toArray, List.map_cons, List.map_nil]); first | done | rfl | (simp only [List.length_drop, List.length_take]; rfl)) ?_
                              with_reducible refine (dolmenref5_Texts.calls kj25 _ _ t150 _ _ t161 true _ ?side1 ?side2 ?side3 ?side4 A50.out).mono ?_
                              (case side1 => repeat (first | exact (Kd.R_reads' HO_8.out).2.2 | (with_reducible refine Kd.C_alloc ?_ _) | (with_reducible refine Kd.C_drewN ?_ _) | (with_reducible refine Kd.C_drew ?_)))
                              (case side2 => exact (Kd.R_reads' HO_8.out).2.1)
                              (case side3 => repeat (first | exact (Kd.R_reads' HO_10.out).2.2 | (with_reducible refine Kd.C_alloc ?_ _) | (with_reducible refine Kd.C_drewN ?_ _) | (with_reducible refine Kd.C_drew ?_)))
                              (case side4 => exact (Kd.R_reads' HO_10.out).2.1)
                              rintro e w' ⟨rfl, ⟨nd, rfl⟩⟩
                              refine ⟨_, rfl, ?_⟩
                              refine hK.out _ _ trivial (fun hHeld => ?_)
                              clear hK K
                              refine norm_ (a' := ?_) ?_ ?_
                              rotate_left
                              · show Act.put _ (some 103) _ = _
                                simp only [Act.put, List.setIfInBounds_toArray, List.set_cons_zero, List.set_cons_succ, i64_w, i32_w]
                                rfl
                              refine pure_ (i := 14) (N := some 104) (v := ?_) (a' := ?_) #[true, true, true, true, true, true, true, true, true, true, true, true, true, true, true, false, false, false, false, false, false, false, false, false] rfl rfl (any_of HT_.out (by kernel_rfl)) (fun _ _ _ h => h) (Or.inl ⟨by rfl, ?_⟩) ?_ ?_
                              rotate_left
                              · intro w'
                                go_simp
                                with_reducible rfl
                              rotate_left
                              · simp only [Act.put, List.setIfInBounds_toArray, List.set_cons_zero, List.set_cons_succ, i64_w, i32_w]
                                rfl
                              refine pure_ (i := 15) (N := some 105) (v := ?_) (a' := ?_) #[true, true, true, true, true, true, true, true, true, true, true, true, true, true, true, true, false, false, false, false, false, false, false, false] rfl rfl (any_of HT_.out (by kernel_rfl)) (fun _ _ _ h => h) (Or.inl ⟨by rfl, ?_⟩) ?_ ?_
                              rotate_left
                              · intro w'
                                go_simp
                                with_reducible rfl
                              rotate_left
                              · simp only [Act.put, List.setIfInBounds_toArray, List.set_cons_zero, List.set_cons_succ, i64_w, i32_w]
                                rfl
                              refine pure_ (i := 16) (N := some 106) (v := ?_) (a' := ?_) #[true, true, true, true, true, true, true, true, true, true, true, true, true, true, true, true, true, false, false, false, false, false, false, false] rfl rfl (any_of HT_.out (by kernel_rfl)) (fun _ _ _ h => h) (Or.inl ⟨by rfl, ?_⟩) ?_ ?_
                              rotate_left
                              · intro w'
                                go_simp
                                with_reducible rfl
                              rotate_left
                              · simp only [Act.put, List.setIfInBounds_toArray, List.set_cons_zero, List.set_cons_succ, i64_w, i32_w]
                                rfl
                              refine pure_ (i := 17) (N := some 107) (v := ?_) (a' := ?_) #[true, true, true, true, true, true, true, true, true, true, true, true, true, true, true, true, true, true, false, false, false, false, false, false] rfl rfl (any_of HT_.out (by kernel_rfl)) (fun _ _ _ h => h) (Or.inl ⟨by rfl, ?_⟩) ?_ ?_
                              rotate_left
                              · intro w'
                                go_simp
                                with_reducible rfl
                              rotate_left
                              · simp only [Act.put, List.setIfInBounds_toArray, List.set_cons_zero, List.set_cons_succ, i64_w, i32_w]
                                rfl
                              refine one_ (i := 18) (N := some 108) #[true, true, true, true, true, true, true, true, true, true, true, true, true, true, true, true, true, true, true, false, false, false, false, false] rfl rfl (one_of HT_.out (by kernel_rfl)) (by decide) (fun K hK => ?_)
                              refine goes_ Try.func30 (by kernel_rfl) rfl #[.slice Ao57 t151.length co57, .slice Ao58 t162.length co58] (by rfl) rfl rfl (by (try simp only [List.map_toArray, List.map_cons, List.map_nil]); first | done | rfl | (simp only [List.length_drop, List.length_take]; rfl)) ?_
                              with_reducible refine (dolmenref5_Ints.calls kj25 _ _ t151 _ _ t162 true _ ?side1 ?side2 ?side3 ?side4 A52.out).mono ?_
                              (case side1 => repeat (first | exact (Kd.R_reads' HO_9.out).2.2 | (with_reducible refine Kd.C_alloc ?_ _) | (with_reducible refine Kd.C_drewN ?_ _) | (with_reducible refine Kd.C_drew ?_)))
                              (case side2 => exact (Kd.R_reads' HO_9.out).2.1)
                              (case side3 => repeat (first | exact (Kd.R_reads' HO_11.out).2.2 | (with_reducible refine Kd.C_alloc ?_ _) | (with_reducible refine Kd.C_drewN ?_ _) | (with_reducible refine Kd.C_drew ?_)))
                              (case side4 => exact (Kd.R_reads' HO_11.out).2.1)
                              rintro e w' ⟨rfl, ⟨nd, rfl⟩⟩
                              refine ⟨_, rfl, ?_⟩
                              refine hK.out _ _ trivial (fun hHeld => ?_)
                              clear hK K
                              refine norm_ (a' := ?_) ?_ ?_
                              rotate_left
                              · show Act.put _ (some 108) _ = _
                                simp only [Act.put, List.setIfInBounds_toArray, List.set_cons_zero, List.set_cons_succ, i64_w, i32_w]
                                rfl
                              refine pure_ (i := 19) (N := some 109) (v := ?_) (a' := ?_) #[true, true, true, true, true, true, true, true, true, true, true, true, true, true, true, true, true, true, true, true, false, false, false, false] rfl rfl (any_of HT_.out (by kernel_rfl)) (fun _ _ _ h => h) (Or.inl ⟨by rfl, ?_⟩) ?_ ?_
                              rotate_left
                              · intro w'
                                go_simp
                                with_reducible rfl
                              rotate_left
                              · simp only [Act.put, List.setIfInBounds_toArray, List.set_cons_zero, List.set_cons_succ, i64_w, i32_w]
                                rfl
                              refine pure_ (i := 20) (N := some 110) (v := ?_) (a' := ?_) #[true, true, true, true, true, true, true, true, true, true, true, true, true, true, true, true, true, true, true, true, true, false, false, false] rfl rfl (any_of HT_.out (by kernel_rfl)) (fun _ _ _ h => h) (Or.inl ⟨by rfl, ?_⟩) ?_ ?_
                              rotate_left
                              · intro w'
                                go_simp
                                with_reducible rfl
                              rotate_left
                              · simp only [Act.put, List.setIfInBounds_toArray, List.set_cons_zero, List.set_cons_succ, i64_w, i32_w]
                                rfl
                              refine one_ (i := 21) (N := some 111) #[true, true, true, true, true, true, true, true, true, true, true, true, true, true, true, true, true, true, true, true, true, true, false, false] rfl rfl (one_of HT_.out (by kernel_rfl)) (by decide) (fun K hK => ?_)
                              refine goes_ Try.func14 (by kernel_rfl) rfl #[] (by rfl) rfl rfl (by (try simp only [List.map_toArray, List.map_cons, List.map_nil]); first | done | rfl | (simp only [List.length_drop, List.length_take]; rfl)) ?_
                              with_reducible refine (dolmenlaw13_awake.calls  t184 _ A54.out).mono ?_
                              rintro e w66 ⟨rfl, hb⟩
                              refine ⟨_, rfl, ?_⟩
                              have n0_ := Aside0.mk (Kd.N_below (by (with_reducible repeat (first | apply Kd.N_alloc | apply Kd.N_drewN | apply Kd.N_drew)); exact HO_7.out) hb)
                              have n1_ := Aside0.mk (Kd.R_below (by (with_reducible repeat (first | apply Kd.R_alloc | apply Kd.R_drewN | apply Kd.R_drew)); exact HO_8.out) hb)
                              have n2_ := Aside0.mk (Kd.R_below (by (with_reducible repeat (first | apply Kd.R_alloc | apply Kd.R_drewN | apply Kd.R_drew)); exact HO_9.out) hb)
                              have n3_ := Aside0.mk (Kd.R_below (by (with_reducible repeat (first | apply Kd.R_alloc | apply Kd.R_drewN | apply Kd.R_drew)); exact HO_10.out) hb)
                              have n4_ := Aside0.mk (Kd.R_below (by (with_reducible repeat (first | apply Kd.R_alloc | apply Kd.R_drewN | apply Kd.R_drew)); exact HO_11.out) hb)
                              have n5_ := Aside0.mk (Kd.V_below (by (with_reducible repeat (first | apply Kd.V_alloc | apply Kd.V_drewN | apply Kd.V_drew)); exact HO173.out) hb)
                              have n6_ := Aside0.mk (Kd.V_below (by (with_reducible repeat (first | apply Kd.V_alloc | apply Kd.V_drewN | apply Kd.V_drew)); exact HO178.out) hb)
                              have n7_ := Aside0.mk (Kd.V_below (by (with_reducible repeat (first | apply Kd.V_alloc | apply Kd.V_drewN | apply Kd.V_drew)); exact HO181.out) hb)
                              have n8_ := Aside0.mk (below_step (by repeat (first | (with_reducible first | exact HB.out | apply below_alloc | apply pw_below_drewN | apply below_drew1) | exact HB.out)) hb)
                              clear HO_7
                              clear HO_8
                              clear HO_9
                              clear HO_10
                              clear HO_11
                              clear HO173
                              clear HO178
                              clear HO181
                              clear HB
                              have HO_7 := n0_
                              have HO_8 := n1_
                              have HO_9 := n2_
                              have HO_10 := n3_
                              have HO_11 := n4_
                              have HO173 := n5_
                              have HO178 := n6_
                              have HO181 := n7_
                              have HB := n8_
                              clear n0_ n1_ n2_ n3_ n4_ n5_ n6_ n7_ n8_
                              (try clear hb)
                              (try clear hb2)
                              (try clear hk)
                              (try clear hi)
                              refine hK.out _ _ trivial (fun hHeld => ?_)
                              clear hK K
                              refine norm_ (a' := ?_) ?_ ?_
                              rotate_left
                              · show Act.put _ (some 111) _ = _
                                simp only [Act.put, List.setIfInBounds_toArray, List.set_cons_zero, List.set_cons_succ, i64_w, i32_w]
                                rfl
                              refine pure_ (i := 22) (N := some 112) (v := ?_) (a' := ?_) #[true, true, true, true, true, true, true, true, true, true, true, true, true, true, true, true, true, true, true, true, true, true, true, false] rfl rfl (any_of HT_.out (by kernel_rfl)) (fun _ _ _ h => h) (Or.inl ⟨by rfl, ?_⟩) ?_ ?_
                              rotate_left
                              · intro w'
                                go_simp
                                with_reducible rfl
                              rotate_left
                              · simp only [Act.put, List.setIfInBounds_toArray, List.set_cons_zero, List.set_cons_succ, i64_w, i32_w]
                                rfl
                              refine pure_ (i := 23) (N := some 4) (v := ?_) (a' := ?_) #[true, true, true, true, true, true, true, true, true, true, true, true, true, true, true, true, true, true, true, true, true, true, true, true] rfl rfl (any_of HT_.out (by kernel_rfl)) (fun _ _ _ h => h) (Or.inl ⟨by rfl, ?_⟩) ?_ ?_
                              rotate_left
                              · intro w'
                                go_simp
                                with_reducible rfl
                              rotate_left
                              · simp only [Act.put, List.setIfInBounds_toArray, List.set_cons_zero, List.set_cons_succ, i64_w, i32_w]
                                rfl
                              refine done_ (done_of HT_.out (by kernel_rfl)) ?_
                              try go_wp2
                              go_ret
                              exact ⟨by first | rfl | (simp [errW_none, errW_some] <;> rfl) | (simp [*, errW_none, errW_some] <;> rfl), by repeat (first | (with_reducible first | exact HB.out | apply below_alloc | apply pw_below_drewN | apply below_drew1) | exact HB.out)⟩
                            · replace c53 := Bool.eq_false_iff.mpr c53
                              subst c53
                              have H1 : (none) = some r := by rw [if_neg (show ¬ (false = true) by decide)] at H; exact H
                              clear H
                              have H := H1
                              clear H1
                              exact absurd H (by simp)
                          · replace c51 := Bool.eq_false_iff.mpr c51
                            subst c51
                            have H1 : (none) = some r := by rw [if_neg (show ¬ (false = true) by decide)] at H; exact H
                            clear H
                            have H := H1
                            clear H1
                            exact absurd H (by simp)
                        · rw [if_neg c49] at H
                          have c49b0 : ((strOfNums t171).toList == (strOfNums t179).toList) = false := beq_eq_false_iff_ne.mpr c49
                          have c49b1 : ((strOfNums t171).toList != (strOfNums t179).toList) = true := bne_iff_ne.mpr c49
                          exact absurd H (by simp)
                      · rw [if_neg c47] at H
                        exact absurd H (by simp)
                    · rw [if_neg c46] at H
                      exact absurd H (by simp)
            · rw [if_neg c24] at H
              exact absurd H (by simp)
          · rw [if_neg c23] at H
            exact absurd H (by simp)
  · replace c4 := Bool.eq_false_iff.mpr c4
    subst c4
    have H1 : ((dolmenlaw13_awake.f).bind fun t142 => (some t142)) = some r := by rw [if_neg (show ¬ (false = true) by decide)] at H; exact H
    clear H
    have H := H1
    clear H1
    replace H := Option.bind_eq_some_iff.mp H
    obtain ⟨t142, A670, H⟩ := H
    replace H : (some t142) = some r := H
    have A67 := Aside0.mk A670
    clear A670
    obtain rfl := Option.some.inj H
    go_enter Try.func9, Try.ntmps9
    go_wp2_with (first | ((with_reducible refine gate_callee (f := 13) rfl ?_); refine goesL_ (some 13) rfl rfl Try.func13 (by kernel_rfl) rfl #[.slice A0 l0.length c0] rfl (by (try simp only [List.map_toArray, List.map_cons, List.map_nil]); first | done | rfl | (simp only [List.length_drop, List.length_take]; rfl)) ?_; (with_reducible refine (dolmenlaw13_small.calls k _ _ l0 false _ ?side1 ?side2 A3.out).mono ?_); (case side1 => repeat (first | exact HR0.out | (with_reducible refine Kd.C_alloc ?_ _) | (with_reducible refine Kd.C_drewN ?_ _) | (with_reducible refine Kd.C_drew ?_))); (case side2 => exact HC0.out); rintro e w68 ⟨rfl, hb⟩; refine ⟨_, rfl, ?_⟩; have n0_ := Aside0.mk (below_step (by repeat (first | (with_reducible first | exact HB.out | apply below_alloc | apply pw_below_drewN | apply below_drew1) | exact HB.out)) hb); clear HB; have HB := n0_; clear n0_; (try clear hb); (try clear hb2); (try clear hk); (try clear hi)) | ((with_reducible refine gate_callee (f := 14) rfl ?_); refine goesL_ (some 15) rfl rfl Try.func14 (by kernel_rfl) rfl #[] rfl (by (try simp only [List.map_toArray, List.map_cons, List.map_nil]); first | done | rfl | (simp only [List.length_drop, List.length_take]; rfl)) ?_; (with_reducible refine (dolmenlaw13_awake.calls  t142 _ A67.out).mono ?_); rintro e w69 ⟨rfl, hb⟩; refine ⟨_, rfl, ?_⟩; have n0_ := Aside0.mk (below_step (by repeat (first | (with_reducible first | exact HB.out | apply below_alloc | apply pw_below_drewN | apply below_drew1) | exact HB.out)) hb); clear HB; have HB := n0_; clear n0_; (try clear hb); (try clear hb2); (try clear hk); (try clear hi)))
    go_ret
    exact ⟨by first | rfl | (simp [errW_none, errW_some] <;> rfl) | (simp [*, errW_none, errW_some] <;> rfl), by repeat (first | (with_reducible first | exact HB.out | apply below_alloc | apply pw_below_drewN | apply below_drew1) | exact HB.out)⟩

end Go.Proofs.Ytacdocchcfbgcaa.Q
