-- printed by wip/mp.py (the kit's print, with given functions); Lean checks it
import Derived.Test.YtacdocchcfbgcaaQx0
import Derived.Test.YtacdocchcfbgcaaQx5
namespace Go.Proofs.Ytacdocchcfbgcaa.Q
open Go.RowKit Go.Proofs.YtacdocchcfbgcaaW.PrintWords Go.Proofs.YtacdocchcfbgcaaW.PrintLast Go.Proofs.YtacdocchcfbgcaaW.PrintMore
attribute [local go_sem] max2_int min2_int max_two min_two max_three min_three max_four min_four   -- for this text's walks alone
set_option linter.unusedVariables false
set_option linter.unusedSimpArgs false

/-! ### clean_Fast: function 29 -/
def clean_Fast.f (k : Nat) (l0 : List (S50)) (l1 : List Int) : Option (Int × Option Int) := (clean_Needed.f k l0 l1).bind fun bt138 => (if bt138.2.isNone = true then (if (bt138.1.length : Int) = 0 then (some ((l0.length : Int), none)) else (if 0 < (bt138.1.length : Int) then (some (rd bt138.1 0, none)) else (none))) else (some (0, some (bt138.2.getD 0))))
theorem clean_Fast.mono : ∀ a0 a1 k, LeO (clean_Fast.f k a0 a1) (clean_Fast.f (k + 1) a0 a1) := by
  intro a0 a1 k
  unfold clean_Fast.f
  repeat' first
      | (with_reducible exact clean_Needed.mono _ _ _)
      | (with_reducible exact LeO.refl _)
      | (with_reducible exact LeO.none _)
      | (with_reducible refine LeO.ite ?_ ?_)
      | (with_reducible refine LeO.bind ?_ (fun _ => ?_))
      | exact clean_Needed.mono _ _ _
      | exact LeO.none _
      | refine LeO.ite ?_ ?_
      | refine LeO.bind ?_ (fun _ => ?_)
set_option maxHeartbeats 8000000 in
set_option maxRecDepth 100000 in
theorem clean_Fast.calls (k : Nat) (A0 : Option Addr) (c0 : Nat) (l0 : List (S50)) (A1 : Option Addr) (c1 : Nat) (l1 : List Int) (r1 : Int) (r2 : Option Int) (w : World) (hr0 : Kd.C k50 w A0 l0.length l0) (hc0 : l0.length ≤ c0) (hr1 : Kd.C (Kd.int .i64) w A1 l1.length l1) (hc1 : l1.length ≤ c1) (h : clean_Fast.f k l0 l1 = some (r1, r2)) :
    Calls Try.prog 29 #[.slice A0 l0.length c0, .slice A1 l1.length c1] w fun e w' => e = .returned (.tuple #[.int .i64 r1, errW r2]) ∧ Below w.heap.size w w' := by
  have hu44 := Try.underlying44
  have hu90 := Try.underlying90
  have HR0 := Aside0.mk hr0
  have HC0 := Aside0.mk hc0
  clear hr0 hc0
  have HR1 := Aside0.mk hr1
  have HC1 := Aside0.mk hc1
  clear hr1 hc1
  have HB := Aside0.mk (Below.refl w.heap.size w)
  have H : ((clean_Needed.f k l0 l1).bind fun bt138 => (if bt138.2.isNone = true then (if (bt138.1.length : Int) = 0 then (some ((l0.length : Int), none)) else (if 0 < (bt138.1.length : Int) then (some (rd bt138.1 0, none)) else (none))) else (some (0, some (bt138.2.getD 0))))) = some (r1, r2) := h
  clear h
  replace H := Option.bind_eq_some_iff.mp H
  obtain ⟨⟨t138, t139⟩, A30, H⟩ := H
  replace H : (if t139.isNone = true then (if (t138.length : Int) = 0 then (some ((l0.length : Int), none)) else (if 0 < (t138.length : Int) then (some (rd t138 0, none)) else (none))) else (some (0, some (t139.getD 0)))) = some (r1, r2) := H
  have A3 := Aside0.mk A30
  clear A30
  rcases t139 with _ | q142
  · have H1 : (if (t138.length : Int) = 0 then (some ((l0.length : Int), none)) else (if 0 < (t138.length : Int) then (some (rd t138 0, none)) else (none))) = some (r1, r2) := by rw [if_pos (show (none : Option Int).isNone = true by rfl)] at H; exact H
    clear H
    have H := H1
    clear H1
    try simp only [errW_none, errW_some]
    by_cases c4 : (t138.length : Int) = 0
    · rw [if_pos c4] at H
      have c4b0 : ((t138.length : Int) == 0) = true := beq_iff_eq.mpr c4
      have c4b1 : ((t138.length : Int) != 0) = false := bne_eq_false_iff_eq.mpr c4
      clear c4
      simp only [Option.some.injEq, Prod.mk.injEq] at H
      obtain ⟨rfl, rfl⟩ := H
      go_enter Try.func29, Try.ntmps29
      go_wp2_with (first | ((with_reducible refine gate_callee (f := 28) rfl ?_); refine goesL_ (some 10) rfl rfl Try.func28 (by kernel_rfl) rfl #[.slice A0 l0.length c0, .slice A1 l1.length c1] rfl (by (try simp only [List.map_toArray, List.map_cons, List.map_nil]); first | done | rfl | (simp only [List.length_drop, List.length_take]; rfl)) ?_; (with_reducible refine (clean_Needed.calls k _ _ l0 _ _ l1 t138 none _ ?side1 ?side2 ?side3 ?side4 A3.out).mono ?_); (case side1 => repeat (first | exact HR0.out | (with_reducible refine Kd.C_alloc ?_ _) | (with_reducible refine Kd.C_drewN ?_ _) | (with_reducible refine Kd.C_drew ?_))); (case side2 => exact HC0.out); (case side3 => repeat (first | exact HR1.out | (with_reducible refine Kd.C_alloc ?_ _) | (with_reducible refine Kd.C_drewN ?_ _) | (with_reducible refine Kd.C_drew ?_))); (case side4 => exact HC1.out); rintro e w5 ⟨v140, rfl, ho0, hb⟩; refine ⟨_, rfl, ?_⟩; have n0_ := Aside0.mk (Kd.R_lower ho0 (below_size (by repeat (first | (with_reducible first | exact HB.out | apply below_alloc | apply pw_below_drewN | apply below_drew1) | exact HB.out)))); have n1_ := Aside0.mk (below_step (by repeat (first | (with_reducible first | exact HB.out | apply below_alloc | apply pw_below_drewN | apply below_drew1) | exact HB.out)) hb); clear HB; have HO141 := n0_; have HB := n1_; clear n0_ n1_; (try clear hb); (try clear hb2); (try clear hk); (try clear hi); (try clear ho0); (try simp only [errW_none, errW_some]); obtain ⟨Ao6, co6, eo6⟩ := Kd.R_slice HO141.out; subst eo6))
      go_ret2
      exact ⟨by first | rfl | (simp [errW_none, errW_some] <;> rfl) | (simp [*, errW_none, errW_some] <;> rfl), by repeat (first | (with_reducible first | exact HB.out | apply below_alloc | apply pw_below_drewN | apply below_drew1) | exact HB.out)⟩
    · rw [if_neg c4] at H
      have c4b0 : ((t138.length : Int) == 0) = false := beq_eq_false_iff_ne.mpr c4
      have c4b1 : ((t138.length : Int) != 0) = true := bne_iff_ne.mpr c4
      have c4b2 : ¬ (t138 = []) := fun h_ => c4 (by rw [h_]; rfl)
      by_cases c7 : 0 < (t138.length : Int)
      · rw [if_pos c7] at H
        have c7b0 : decide (0 < (t138.length : Int)) = true := decide_eq_true c7
        have c7b1 : decide (0 < t138.length) = true := decide_eq_true (by omega)
        clear c7
        simp only [Option.some.injEq, Prod.mk.injEq] at H
        obtain ⟨rfl, rfl⟩ := H
        go_enter Try.func29, Try.ntmps29
        go_wp2_with (first | ((with_reducible refine gate_callee (f := 28) rfl ?_); refine goesL_ (some 10) rfl rfl Try.func28 (by kernel_rfl) rfl #[.slice A0 l0.length c0, .slice A1 l1.length c1] rfl (by (try simp only [List.map_toArray, List.map_cons, List.map_nil]); first | done | rfl | (simp only [List.length_drop, List.length_take]; rfl)) ?_; (with_reducible refine (clean_Needed.calls k _ _ l0 _ _ l1 t138 none _ ?side1 ?side2 ?side3 ?side4 A3.out).mono ?_); (case side1 => repeat (first | exact HR0.out | (with_reducible refine Kd.C_alloc ?_ _) | (with_reducible refine Kd.C_drewN ?_ _) | (with_reducible refine Kd.C_drew ?_))); (case side2 => exact HC0.out); (case side3 => repeat (first | exact HR1.out | (with_reducible refine Kd.C_alloc ?_ _) | (with_reducible refine Kd.C_drewN ?_ _) | (with_reducible refine Kd.C_drew ?_))); (case side4 => exact HC1.out); rintro e w8 ⟨v140, rfl, ho0, hb⟩; refine ⟨_, rfl, ?_⟩; have n0_ := Aside0.mk (Kd.R_lower ho0 (below_size (by repeat (first | (with_reducible first | exact HB.out | apply below_alloc | apply pw_below_drewN | apply below_drew1) | exact HB.out)))); have n1_ := Aside0.mk (below_step (by repeat (first | (with_reducible first | exact HB.out | apply below_alloc | apply pw_below_drewN | apply below_drew1) | exact HB.out)) hb); clear HB; have HO141 := n0_; have HB := n1_; clear n0_ n1_; (try clear hb); (try clear hb2); (try clear hk); (try clear hi); (try clear ho0); (try simp only [errW_none, errW_some]); obtain ⟨Ao9, co9, eo9⟩ := Kd.R_slice HO141.out; subst eo9; have p143 : 0 ≤ (0 : Int) := (by omega); have q143 : 0 < (t138.length : Int) := of_decide_eq_true (by first | (with_reducible assumption) | assumption); obtain ⟨ad143, e143, hx143_0⟩ := Kd.at_int (Kd.R_reads' HO141.out).2.2 0 p143 q143; cases e143; have qi143 : (0 < t138.length) = True := eq_true (by omega); (try rw [show ((0 : Int)).toNat = 0 from rfl] at hx143_0); (try rw [Addr.add_zero'] at hx143_0); replace p143 := eq_true p143; replace q143 := eq_true q143))
        go_ret2
        exact ⟨by first | rfl | (simp [errW_none, errW_some] <;> rfl) | (simp [*, errW_none, errW_some] <;> rfl), by repeat (first | (with_reducible first | exact HB.out | apply below_alloc | apply pw_below_drewN | apply below_drew1) | exact HB.out)⟩
      · rw [if_neg c7] at H
        exact absurd H (by simp)
  · have H1 : (some (0, some q142)) = some (r1, r2) := by rw [if_neg (show ¬ (some q142).isNone = true by simp)] at H; exact H
    clear H
    have H := H1
    clear H1
    try simp only [errW_none, errW_some]
    simp only [Option.some.injEq, Prod.mk.injEq] at H
    obtain ⟨rfl, rfl⟩ := H
    go_enter Try.func29, Try.ntmps29
    go_wp2_with (first | ((with_reducible refine gate_callee (f := 28) rfl ?_); refine goesL_ (some 10) rfl rfl Try.func28 (by kernel_rfl) rfl #[.slice A0 l0.length c0, .slice A1 l1.length c1] rfl (by (try simp only [List.map_toArray, List.map_cons, List.map_nil]); first | done | rfl | (simp only [List.length_drop, List.length_take]; rfl)) ?_; (with_reducible refine (clean_Needed.calls k _ _ l0 _ _ l1 t138 (some q142) _ ?side1 ?side2 ?side3 ?side4 A3.out).mono ?_); (case side1 => repeat (first | exact HR0.out | (with_reducible refine Kd.C_alloc ?_ _) | (with_reducible refine Kd.C_drewN ?_ _) | (with_reducible refine Kd.C_drew ?_))); (case side2 => exact HC0.out); (case side3 => repeat (first | exact HR1.out | (with_reducible refine Kd.C_alloc ?_ _) | (with_reducible refine Kd.C_drewN ?_ _) | (with_reducible refine Kd.C_drew ?_))); (case side4 => exact HC1.out); rintro e w10 ⟨v140, rfl, ho0, hb⟩; refine ⟨_, rfl, ?_⟩; have n0_ := Aside0.mk (Kd.R_lower ho0 (below_size (by repeat (first | (with_reducible first | exact HB.out | apply below_alloc | apply pw_below_drewN | apply below_drew1) | exact HB.out)))); have n1_ := Aside0.mk (below_step (by repeat (first | (with_reducible first | exact HB.out | apply below_alloc | apply pw_below_drewN | apply below_drew1) | exact HB.out)) hb); clear HB; have HO141 := n0_; have HB := n1_; clear n0_ n1_; (try clear hb); (try clear hb2); (try clear hk); (try clear hi); (try clear ho0); (try simp only [errW_none, errW_some])))
    go_ret2
    exact ⟨by first | rfl | (simp [errW_none, errW_some] <;> rfl) | (simp [*, errW_none, errW_some] <;> rfl), by repeat (first | (with_reducible first | exact HB.out | apply below_alloc | apply pw_below_drewN | apply below_drew1) | exact HB.out)⟩

/-! ### dolmenalike_Code: function 33, given -/
def dolmenalike_Code.f (a0 : Option Int) : Option (Int) := some (Go.Proofs.Ytacdocchcfbgcaa.HErr.codeOf a0)
theorem dolmenalike_Code.calls (a0 : Option Int) (r : Int) (w : World) (h : dolmenalike_Code.f a0 = some r) :
    Calls Try.prog 33 #[errW a0] w fun e w' => e = .returned (.int .i64 r) ∧ Drawn0 w w' := by
  obtain rfl := Option.some.inj h
  have e : errW a0 = Go.Proofs.Ytacdocchcfbgcaa.HErr.errV a0 := by cases a0 <;> rfl
  rw [e]
  exact (Go.Proofs.Ytacdocchcfbgcaa.HErr.code_any a0 w).mono fun _ _ ⟨h1, h2⟩ => ⟨h1, by subst h2; exact Drawn0.refl _⟩

/-! ### dolmenlaw14_awake: function 25, given -/
def awL : List S50 := [⟨1, 1, 0, [97, 98], ⟨#[]⟩, 0⟩, ⟨1, 3, 0, [99, 100], ⟨#[]⟩, 0⟩]
theorem aw1 : clean_Spans.f 50 awL = some ([⟨1, 3⟩, ⟨3, 0⟩], none) := by kernel_rfl
theorem aw2 : clean_Fast.f 50 awL [5] = some (1, none) := by kernel_rfl
theorem aw3 : clean_Needed.f 50 [⟨0, 0, 0, [], ⟨#[]⟩, 0⟩] [] = some ([], some 1) := by kernel_rfl
def awW (w : World) : World := ((w.alloc (Obj.cells #[Value.int .u8 97, Value.int .u8 98] 5 (2, 3))).alloc (Obj.cells #[Value.int .u8 99, Value.int .u8 100] 5 (2, 3))).alloc
      (Obj.cells #[Value.int .i64 1, Value.int .i64 1, Value.int .i64 0, Value.slice (some ⟨w.heap.size, 0, none⟩) 2 2, Value.string ⟨#[]⟩, Value.int .i64 0, Value.int .i64 1, Value.int .i64 3, Value.int .i64 0, Value.slice (some ⟨w.heap.size + 1, 0, none⟩) 2 2, Value.string ⟨#[]⟩, Value.int .i64 0] 50)
theorem awC (w : World) : Kd.C k50 (awW w) (some ⟨w.heap.size + 1 + 1, 0, none⟩) awL.length awL := by
  have b0 : (awW w).heap[w.heap.size]? = some (Obj.cells #[Value.int .u8 97, Value.int .u8 98] 5 (2, 3)) := by
    unfold awW
    rw [Below.heap_alloc _ _ _ (by simp; omega), Below.heap_alloc _ _ _ (by simp)]
    exact heap_alloc_new w _
  have b1 : (awW w).heap[w.heap.size + 1]? = some (Obj.cells #[Value.int .u8 99, Value.int .u8 100] 5 (2, 3)) := by
    unfold awW
    rw [Below.heap_alloc _ _ _ (by simp)]
    have := heap_alloc_new (w.alloc (Obj.cells #[Value.int .u8 97, Value.int .u8 98] 5 (2, 3))) (Obj.cells #[Value.int .u8 99, Value.int .u8 100] 5 (2, 3))
    simpa using this
  refine Go.Proofs.Ytacdocchcfbgcaa.HBlk.C_of_block (t := 50) (fr := (0, 0)) (cs := #[Value.int .i64 1, Value.int .i64 1, Value.int .i64 0, Value.slice (some ⟨w.heap.size, 0, none⟩) 2 2, Value.string ⟨#[]⟩, Value.int .i64 0, Value.int .i64 1, Value.int .i64 3, Value.int .i64 0, Value.slice (some ⟨w.heap.size + 1, 0, none⟩) 2 2, Value.string ⟨#[]⟩, Value.int .i64 0]) ?_ ?_ (by decide)
  · have := heap_alloc_new ((w.alloc (Obj.cells #[Value.int .u8 97, Value.int .u8 98] 5 (2, 3))).alloc (Obj.cells #[Value.int .u8 99, Value.int .u8 100] 5 (2, 3))) (Obj.cells #[Value.int .i64 1, Value.int .i64 1, Value.int .i64 0, Value.slice (some ⟨w.heap.size, 0, none⟩) 2 2, Value.string ⟨#[]⟩, Value.int .i64 0, Value.int .i64 1, Value.int .i64 3, Value.int .i64 0, Value.slice (some ⟨w.heap.size + 1, 0, none⟩) 2 2, Value.string ⟨#[]⟩, Value.int .i64 0] 50)
    simpa [awW] using this
  · exact Reps.c6 (k50_mk _ (⟨1, 1, 0, [97, 98], ⟨#[]⟩, 0⟩ : S50) (by decide) (Go.Proofs.Ytacdocchcfbgcaa.HBlk.C_of_block b0 (Reps.one (show Kd.K (Kd.int .u8) _ 97 [.int .u8 97] from rfl) (Reps.one (show Kd.K (Kd.int .u8) _ 98 [.int .u8 98] from rfl) (Reps.none _ _))) (by decide)))
      (Reps.c6 (k50_mk _ (⟨1, 3, 0, [99, 100], ⟨#[]⟩, 0⟩ : S50) (by decide) (Go.Proofs.Ytacdocchcfbgcaa.HBlk.C_of_block b1 (Reps.one (show Kd.K (Kd.int .u8) _ 99 [.int .u8 99] from rfl) (Reps.one (show Kd.K (Kd.int .u8) _ 100 [.int .u8 100] from rfl) (Reps.none _ _))) (by decide))) (Reps.none _ _))
theorem awB (w : World) : Below w.heap.size w (awW w) := below_alloc (below_alloc (below_alloc (Below.refl _ _) _) _) _

set_option maxRecDepth 100000 in
theorem aw_any (w : World) : Calls Try.prog 25 #[] w fun e w' => e = .returned (.bool true) ∧ Below w.heap.size w w' := by
  have k1 := Go.Proofs.Ytacdocchcfbgcaa.HBlk.conv_const Try.underlying30 Try.underlying5 w #[.int .u8 97, .int .u8 98] 2 2 w.heap.size rfl
  have k2 := Go.Proofs.Ytacdocchcfbgcaa.HBlk.conv_const Try.underlying30 Try.underlying5 (w.alloc (.cells #[.int .u8 97, .int .u8 98] 5 (2, 3))) #[.int .u8 99, .int .u8 100] 2 2 (w.heap.size + 1) (by simp)
  have HC := Aside0.mk (awC w)
  have HB := Aside0.mk (awB w)
  go_enter Try.func25, Try.ntmps25
  go_wp2_with fail
  refine (clean_Spans.calls 50 (some ⟨w.heap.size + 1 + 1, 0, none⟩) 2 awL _ _ (awW w) HC.out (by decide) aw1).mono ?_
  rintro e w1 ⟨v0, rfl, hR, hb⟩
  have HB1 := Aside0.mk (below_then HB.out HB.out.size hb)
  have HC1 := Aside0.mk (Kd.C_below HC.out hb)
  have HR := Aside0.mk hR
  clear HB HC hb hR
  simp only [errW_none]
  have B2 := Aside0.mk (Below.alloc (Below.refl w1.heap.size w1) (Nat.le_refl _) (Obj.cells #[Value.int .i64 5] 3))
  have C2 : Aside0 (Kd.C (Kd.int .i64) (w1.alloc (Obj.cells #[Value.int .i64 5] 3)) (some ⟨w1.heap.size, 0, none⟩) [(5 : Int)].length [5]) := ⟨Go.Proofs.Ytacdocchcfbgcaa.HBlk.C_of_block (heap_alloc_new w1 _) (Reps.one (show Kd.K (Kd.int .i64) _ 5 [.int .i64 5] from rfl) (Reps.none _ _)) (by decide)⟩
  go_wp2_with fail
  refine (clean_Fast.calls 50 (some ⟨w.heap.size + 1 + 1, 0, none⟩) 2 awL (some ⟨w1.heap.size, 0, none⟩) 1 [5] _ _ _ (Kd.C_below HC1.out B2.out) (by decide) C2.out (by decide) aw2).mono ?_
  rintro e w2 ⟨rfl, hb⟩
  have HB2 := Aside0.mk (below_then (below_then HB1.out HB1.out.size B2.out) (Nat.le_trans HB1.out.size B2.out.size) hb)
  have HR2 := Aside0.mk (Kd.R_below (Kd.R_below HR.out B2.out) hb)
  clear HB1 HC1 HR B2 C2 hb
  simp only [errW_none]
  have B3 := Aside0.mk (Below.alloc (Below.refl w2.heap.size w2) (Nat.le_refl _) (Obj.cells #[Value.int .i64 0, Value.int .i64 0, Value.int .i64 0, Value.slice none 0 0, Value.string ⟨#[]⟩, Value.int .i64 0] 50))
  have C3 : Aside0 (Kd.C k50 (w2.alloc (Obj.cells #[Value.int .i64 0, Value.int .i64 0, Value.int .i64 0, Value.slice none 0 0, Value.string ⟨#[]⟩, Value.int .i64 0] 50)) (some ⟨w2.heap.size, 0, none⟩) [(⟨0, 0, 0, [], ⟨#[]⟩, 0⟩ : S50)].length [⟨0, 0, 0, [], ⟨#[]⟩, 0⟩]) :=
    ⟨Go.Proofs.Ytacdocchcfbgcaa.HBlk.C_of_block (heap_alloc_new w2 _) (Reps.c6 (k50_mk _ (⟨0, 0, 0, [], ⟨#[]⟩, 0⟩ : S50) (by decide) (Kd.C_nil _ _)) (Reps.none _ _)) (by decide)⟩
  go_wp2_with fail
  refine (clean_Needed.calls 50 (some ⟨w2.heap.size, 0, none⟩) 1 [⟨0, 0, 0, [], ⟨#[]⟩, 0⟩] none 0 [] _ _ _ C3.out (by decide) (Kd.C_nil _ _) (by decide) aw3).mono ?_
  rintro e w3 ⟨v3, rfl, hR3, hb⟩
  have HB3 := Aside0.mk (below_then (below_then HB2.out HB2.out.size B3.out) (Nat.le_trans HB2.out.size B3.out.size) hb)
  have HR3 := Aside0.mk (Kd.R_below (Kd.R_below HR2.out B3.out) hb)
  clear HB2 HR2 B3 C3 hb hR3
  simp only [errW_some]
  obtain ⟨g, cap, rfl, _, hg, _⟩ := Kd.R_form HR3.out (by decide)
  obtain ⟨_, _, hC⟩ := Kd.R_reads' HR3.out
  obtain ⟨ad0, he0, c00, c01⟩ := at_T64 hC 0 (by decide) (by decide)
  obtain ⟨ad1, he1, c10, c11⟩ := at_T64 hC 1 (by decide) (by decide)
  cases he0
  cases he1
  have d00 : w3.cell? ⟨g, 0, none⟩ = some (.int .i64 1) := c00
  have d01 : w3.cell? ⟨g, 1, none⟩ = some (.int .i64 3) := c01
  have d10 : w3.cell? ⟨g, 2, none⟩ = some (.int .i64 3) := c10
  have d11 : w3.cell? ⟨g, 3, none⟩ = some (.int .i64 0) := c11
  clear hC c00 c01 c10 c11 HR3 hg k1 k2
  simp only [List.length_cons, List.length_nil, Nat.zero_add, Nat.reduceAdd]
  have hcode : ∀ W : World, Calls Try.prog 33 #[.iface 90 (.int .i64 1)] W fun e w' => e = .returned (.int .i64 1) ∧ Drawn0 W w' := fun W => dolmenalike_Code.calls (some 1) 1 W (by kernel_rfl)
  have HH := Lib.hid hcode
  clear hcode
  go_wp2_with (go_at_call 33; refine (HH.out _).mono ?_; rintro e w' ⟨rfl, ⟨nn, rfl⟩⟩)
  go_ret
  exact ⟨rfl, pw_below_drewN HB3.out _⟩
def dolmenlaw14_awake.f : Option (Bool) := some true
theorem dolmenlaw14_awake.calls (r : Bool) (w : World) (h : dolmenlaw14_awake.f = some r) :
    Calls Try.prog 25 #[] w fun e w' => e = .returned (.bool r) ∧ Below w.heap.size w w' := by
  obtain rfl := Option.some.inj h
  exact aw_any w

/-! ### dolmenlaw14_CleanWrites: function 7, given -/
def cwE (i : Nat) : S50 := ⟨1, (i : Int) + 1, 3, [97, 98, 99], ⟨#[]⟩, 0⟩
def cwL : Nat → List S50
  | 0 => []
  | i + 1 => cwL i ++ [cwE i]
theorem cwL_length : ∀ i, (cwL i).length = i
  | 0 => rfl
  | i + 1 => by simp [cwL, cwL_length i]
def cwZ (n : Nat) (z : Bool) : List S50 := if z = true then cwL n ++ [⟨2, (n : Int) + 1, 0, [], ⟨#[]⟩, 0⟩] else cwL n
def cwK (n : Nat) (z : Bool) (l : List Int) (i : Nat) : Bool := (l.any fun e => e == (i : Int)) && (decide (i < n) || z)
def cwC (n : Nat) (z : Bool) (l : List Int) : Nat → Nat
  | 0 => 0
  | i + 1 => cwC n z l i + (if cwK n z l (i + 1) = true then 1 else 0)
theorem cwC_le (n : Nat) (z : Bool) (l : List Int) : ∀ i, cwC n z l i ≤ i
  | 0 => Nat.le_refl _
  | i + 1 => by
    have := cwC_le n z l i
    unfold cwC
    split <;> omega
theorem cw_FK (wr : World) (i : Nat) : Kd.FK k50 (wr.alloc (.cells #[.int .u8 97, .int .u8 98, .int .u8 99] 5 (3, 4))) (fun k_ => k_ = wr.heap.size) (cwE i) [.int .i64 1, .int .i64 ((i : Int) + 1), .int .i64 3, .slice (some ⟨wr.heap.size, 0, none⟩) 3 3, .string ⟨#[]⟩, .int .i64 0] := by
  refine k50_mkF _ _ (cwE i) (A3 := some ⟨wr.heap.size, 0, none⟩) (c3 := 3) (Nat.le_refl 3) fun W' hW => ?_
  have hb : W'.heap[wr.heap.size]? = some (.cells #[.int .u8 97, .int .u8 98, .int .u8 99] 5 (3, 4)) := (hW _ rfl (by simp)).trans (heap_alloc_new wr _)
  exact Go.Proofs.Ytacdocchcfbgcaa.HBlk.C_of_block hb (Reps.one (show Kd.K (Kd.int .u8) _ 97 [.int .u8 97] from rfl) (Reps.one (show Kd.K (Kd.int .u8) _ 98 [.int .u8 98] from rfl) (Reps.one (show Kd.K (Kd.int .u8) _ 99 [.int .u8 99] from rfl) (Reps.none _ _)))) (show 3 ≤ 9223372036854775807 by decide)
def dolmenlaw14_CleanWrites.f (k : Nat) (a0 : Int) (a1 : Bool) (l2 : List Int) : Option Bool :=
  if a0 < 1 ∨ a0 > 30 ∨ l2.length > 10 then some true else
    (clean_Thorough.f k (cwZ a0.toNat a1) l2).bind fun r => if r.2.isNone = true then some (decide (r.1.length = 1 + cwC a0.toNat a1 l2 a0.toNat)) else some false
theorem dolmenlaw14_CleanWrites.mono : ∀ a0 a1 a2 k, LeO (dolmenlaw14_CleanWrites.f k a0 a1 a2) (dolmenlaw14_CleanWrites.f (k + 1) a0 a1 a2) := fun a0 a1 a2 k => LeO.ite (LeO.refl _) (LeO.bind (clean_Thorough.mono _ _ _) (fun _ => LeO.refl _))
set_option maxHeartbeats 2000000 in
set_option maxRecDepth 100000 in
theorem cw_any (k n : Nat) (a1 : Bool) (A2 : Option Addr) (c2 : Nat) (l2 : List Int) (r : Bool) (w : World) (hr2 : Kd.C (Kd.int .i64) w A2 l2.length l2) (hc2 : l2.length ≤ c2) (h0 : 1 ≤ n) (h1 : n ≤ 30) (h2 : l2.length ≤ 10) (rt : List S50 × Option Int) (ht : clean_Thorough.f k (cwZ n a1) l2 = some rt)
    (hr : r = if rt.2.isNone = true then decide (rt.1.length = 1 + cwC n a1 l2 n) else false) :
    Calls Try.prog 7 #[.int .i64 n, .bool a1, .slice A2 l2.length c2] w fun e w' => e = .returned (.bool r) ∧ Below w.heap.size w w' := by
  have HR2 := Aside0.mk hr2
  have HC2 := Aside0.mk hc2
  have HT := Aside0.mk ht
  have HRr := Aside0.mk hr
  clear hr2 hc2 ht hr
  have b0 : decide ((n : Int) < 1) = false := decide_eq_false (by omega)
  have b1 : decide (30 < (n : Int)) = false := decide_eq_false (by omega)
  have b2 : decide (10 < (l2.length : Int)) = false := decide_eq_false (by omega)
  have hu50 := Try.underlying50
  go_enter Try.func7, Try.ntmps7
  go_wp2
  go_loopw [7, 8] (fun v7 v8 w' => ∃ i : Nat, v8 = .int .i64 i ∧ i ≤ n ∧ Aside0 (Kd.N k50 50 w' w.heap.size (fun k_ => w.heap.size ≤ k_) v7 (cwL i)) ∧ Aside0 (Below w.heap.size w w')) (fun _ v8 _ => n - (intOf v8).toNat)
  case atStart => exact ⟨0, rfl, Nat.zero_le _, ⟨Kd.N_nil _ _ _ _ _⟩, ⟨Below.refl _ _⟩⟩
  case round =>
    obtain ⟨i, rfl, hi, HO, HB⟩ := hrel
    by_cases hlt : i < n
    · have k1 := Go.Proofs.Ytacdocchcfbgcaa.HBlk.conv_const Try.underlying30 Try.underlying5 wr #[.int .u8 97, .int .u8 98, .int .u8 99] 3 3 wr.heap.size rfl
      have HS := Aside0.mk (below_size HB.out)
      have HL := Aside0.mk (Kd.N_lt HO.out)
      have HI := Aside0.mk h1
      go_wp2_with ((with_reducible refine gate_builtin (b := .append) (xs := #[.tmp 32, .tmp 38]) rfl ?_); at_builtin; (refine Kd.N_append k50 (w0 := w) w.heap.size rfl (.tmp 32) (.tmp 38) 27 50 (.agg #[.int .i64 0, .int .i64 0, .int .i64 0, .slice none 0 0, .string ⟨#[]⟩, .int .i64 0]) 72 rfl Try.underlying27 (by rfl) rfl (by decide) (by omega) _ (cwL i) (cwE i) _ (fun k_ => w.heap.size ≤ k_) (fun k_ => k_ = wr.heap.size) rfl (by show Value.slice (some ⟨wr.heap.size + 1, 0, none⟩) 1 1 = .slice (some ⟨(wr.alloc _).heap.size, 0, none⟩) 1 1; simp) (cw_FK wr i) ?aK ?aF ?aO ?aB ?aS ?aL ?_; (case aK => exact fun k hk => ⟨by have := HS.out; omega, fun he => by have := HL.out k he.symm; omega⟩); (case aF => exact fun k hk => Nat.le_trans (below_size (below_alloc HB.out _)) hk); (case aO => exact Kd.N_alloc HO.out _); (case aB => exact below_alloc HB.out _); (case aS => exact below_size (below_alloc HB.out _)); (case aL => rw [cwL_length]; omega); intro v1 w18 ho hb hg hat; have HO4 := Aside0.mk ho; have HB7 := Aside0.mk hb; clear ho hb hg hat HO HB))
      go_roundw
      case rel => exact ⟨i + 1, by go_num, by omega, HO4, HB7⟩
      case measure => simp [intOf]; omega
    · have hin : i = n := by omega
      subst hin
      have HI := Aside0.mk h1
      go_upto_if 40 with (fail)
      go_cut [7] (fun v7 wc => Aside0 (Kd.N k50 50 wc w.heap.size (fun k_ => w.heap.size ≤ k_) v7 (cwZ i a1)) ∧ Aside0 (Below w.heap.size w wc))
      case first =>
        cases a1 with
        | true =>
          have HS := Aside0.mk (below_size HB.out)
          go_wp2_with ((with_reducible refine gate_builtin (b := .append) (xs := #[.tmp 41, .tmp 45]) rfl ?_); at_builtin; (refine Kd.N_append k50 (w0 := w) w.heap.size rfl (.tmp 41) (.tmp 45) 27 50 (.agg #[.int .i64 0, .int .i64 0, .int .i64 0, .slice none 0 0, .string ⟨#[]⟩, .int .i64 0]) 72 rfl Try.underlying27 (by rfl) rfl (by decide) (by omega) _ (cwL i) ⟨2, (i : Int) + 1, 0, [], ⟨#[]⟩, 0⟩ _ (fun k_ => w.heap.size ≤ k_) (fun _ => False) rfl rfl (k50_mkF _ _ ⟨2, (i : Int) + 1, 0, [], ⟨#[]⟩, 0⟩ (Nat.le_refl 0) (Kd.F_nil _ _ _)) (fun _ hk => hk.elim) ?aF ?aO ?aB ?aS ?aL ?_; (case aF => exact fun k hk => Nat.le_trans (below_size HB.out) hk); (case aO => exact HO.out); (case aB => exact HB.out); (case aS => exact below_size HB.out); (case aL => rw [cwL_length]; omega); intro v1 w18 ho hb hg hat; have HO4 := Aside0.mk ho; have HB7 := Aside0.mk hb; clear ho hb hg hat HO HB))
          go_meet
          case rel => exact ⟨HO4, HB7⟩
        | false =>
          go_wp2
          go_meet
          case rel => exact ⟨HO, HB⟩
      case rest =>
        clear HO HB
        obtain ⟨HO, HB⟩ := hcut
        obtain ⟨Ao, co, eo⟩ := Kd.N_slice HO.out
        subst eo
        obtain ⟨t, ot⟩ := rt
        cases ot with
        | some q =>
          have hrr := HRr.out
          simp at hrr
          subst hrr
          clear HRr
          go_wp2_with (go_at_call 31; (refine (clean_Thorough.calls k _ _ (cwZ i a1) _ _ l2 t (some q) _ (Kd.N_reads' HO.out).2.2 (Kd.N_reads' HO.out).2.1 (Kd.C_below HR2.out HB.out) HC2.out HT.out).mono ?_; rintro e w22 ⟨v250, rfl, ho0, hb⟩; have HB2 := Aside0.mk (below_step HB.out hb); clear hb ho0; simp only [errW_none, errW_some]))
          go_ret
          exact ⟨rfl, HB2.out⟩
        | none =>
          have hrr := HRr.out
          simp only [Option.isNone_none, if_true] at hrr
          have HRq := Aside0.mk hrr
          clear hrr HRr
          go_wp2_with (go_at_call 31; (refine (clean_Thorough.calls k _ _ (cwZ i a1) _ _ l2 t none _ (Kd.N_reads' HO.out).2.2 (Kd.N_reads' HO.out).2.1 (Kd.C_below HR2.out HB.out) HC2.out HT.out).mono ?_; rintro e w22 ⟨v250, rfl, ho0, hb⟩; have HB2 := Aside0.mk (below_step HB.out hb); obtain ⟨At, ct, rfl⟩ := Kd.V_slice ho0; clear hb ho0; simp only [errW_none, errW_some]))
          go_loopw [11, 12] (fun v11 v12 w' => ∃ m : Nat, m ≤ i ∧ v11 = .int .i64 ((1 + cwC i a1 l2 m : Nat) : Int) ∧ v12 = .int .i64 ((m + 1 : Nat) : Int) ∧ Aside0 (Below w.heap.size w w')) (fun _ v12 _ => i + 1 - (intOf v12).toNat)
          case atStart => exact ⟨0, Nat.zero_le _, rfl, rfl, HB2⟩
          case round =>
            obtain ⟨m, hm, rfl, rfl, HB3⟩ := hrel
            have hcl := cwC_le i a1 l2 m
            by_cases hlt2 : m < i
            · have b3 : decide (((m + 1 : Nat) : Int) ≤ (i : Int)) = true := decide_eq_true (by omega)
              go_wp2
              go_loopw [13, 14] (fun v13 v14 w' => ∃ j : Nat, j ≤ l2.length ∧ v13 = .bool ((l2.take j).any fun e => e == ((m + 1 : Nat) : Int)) ∧ v14 = .int .i64 j ∧ Aside0 (Below w.heap.size w w')) (fun _ v14 _ => l2.length - (intOf v14).toNat)
              case atStart => exact ⟨0, Nat.zero_le _, by simp, rfl, HB3⟩
              case round =>
                clear HB3
                obtain ⟨j, hj, rfl, rfl, HB4⟩ := hrel
                by_cases hlt3 : j < l2.length
                · have hlt3' : (j : Int) < (l2.length : Int) := by omega
                  obtain ⟨ad, e, hx⟩ := Kd.at_int (Kd.C_below HR2.out HB4.out) (j : Int) (by omega) hlt3'
                  cases e
                  rw [Int.toNat_natCast] at hx
                  rw [show rd l2 (j : Int) = l2[j] from by unfold rd; simp [hlt3]] at hx
                  have hnx : ((l2.take (j + 1)).any fun e => e == ((m + 1 : Nat) : Int)) = (((l2.take j).any fun e => e == ((m + 1 : Nat) : Int)) || (l2[j] == ((m + 1 : Nat) : Int))) := by
                    rw [List.take_succ_eq_append_getElem hlt3, List.any_append]; simp
                  generalize l2[j] = x at *
                  cases hk : ((l2.take j).any fun e => e == ((m + 1 : Nat) : Int)) with
                  | true =>
                    have HNX := Aside0.mk hnx
                    clear hnx
                    have HK := Aside0.mk hk
                    clear hk
                    go_wp2
                    go_roundw
                    case rel => exact ⟨j + 1, by omega, by rw [HNX.out, HK.out]; rfl, by go_num, HB4⟩
                    case measure => simp [intOf]; omega
                  | false =>
                    have HNX := Aside0.mk hnx
                    clear hnx
                    have HK := Aside0.mk hk
                    clear hk
                    go_wp2
                    go_roundw
                    case rel => exact ⟨j + 1, by omega, by rw [HNX.out, HK.out, Bool.false_or]; first | done | rfl | (congr 1; simp), by go_num, HB4⟩
                    case measure => simp [intOf]; omega
                · have hje : l2.take j = l2 := List.take_of_length_le (by omega)
                  rw [hje]
                  have hc1 : cwC i a1 l2 (m + 1) = cwC i a1 l2 m + (if cwK i a1 l2 (m + 1) = true then 1 else 0) := rfl
                  have hcl1 := cwC_le i a1 l2 (m + 1)
                  have hcl30 : cwC i a1 l2 m ≤ 30 := by omega
                  generalize cwC i a1 l2 m = cm at *
                  generalize hcn : cwC i a1 l2 (m + 1) = cn at *
                  have HCN := Aside0.mk hcn
                  clear hcn
                  unfold cwK at hc1
                  cases hk : (l2.any fun e => e == ((m + 1 : Nat) : Int)) with
                  | false =>
                    rw [hk] at hc1
                    simp at hc1
                    subst hc1
                    clear hk
                    go_wp2
                    go_roundw
                    case rel => exact ⟨m + 1, by omega, by rw [HCN.out]; first | done | rfl | go_num, by go_num, HB4⟩
                    case measure => simp [intOf]; omega
                  | true =>
                    rw [hk] at hc1
                    clear hk
                    cases hd : decide (((m + 1 : Nat) : Int) < (i : Int)) with
                    | true =>
                      have : m + 1 < i := by have := of_decide_eq_true hd; omega
                      rw [decide_eq_true this] at hc1
                      simp at hc1
                      subst hc1
                      go_wp2
                      go_roundw
                      case rel => exact ⟨m + 1, by omega, by rw [HCN.out]; first | done | go_num, by go_num, HB4⟩
                      case measure => simp [intOf]; omega
                    | false =>
                      have : ¬ m + 1 < i := by have := of_decide_eq_false hd; omega
                      rw [decide_eq_false this] at hc1
                      cases a1 with
                      | true =>
                        simp at hc1
                        subst hc1
                        go_wp2
                        go_roundw
                        case rel => exact ⟨m + 1, by omega, by rw [HCN.out]; first | done | go_num, by go_num, HB4⟩
                        case measure => simp [intOf]; omega
                      | false =>
                        simp at hc1
                        subst hc1
                        go_wp2
                        go_roundw
                        case rel => exact ⟨m + 1, by omega, by rw [HCN.out]; first | done | rfl | go_num, by go_num, HB4⟩
                        case measure => simp [intOf]; omega
            · have hme : i = m := by omega
              have b3 : decide (((m + 1 : Nat) : Int) ≤ (i : Int)) = false := decide_eq_false (by omega)
              have b4 : ((t.length : Int) == ((1 + cwC i a1 l2 m : Nat) : Int)) = r := by
                rw [HRq.out, Bool.eq_iff_iff, hme]
                simp
                omega
              have HB4 := Aside0.mk b4
              clear b4
              generalize ((1 + cwC i a1 l2 m : Nat) : Int) = q at *
              cases r with
              | false =>
                have b5 := HB4.out
                go_wp2
                go_ret
                exact ⟨rfl, HB3.out⟩
              | true =>
                have b5 := HB4.out
                go_wp2_with (go_at_call 25; refine (aw_any _).mono ?_; rintro e w9 ⟨rfl, hb⟩; have HB5 := Aside0.mk (below_step HB3.out hb); clear hb)
                go_ret
                exact ⟨rfl, HB5.out⟩
theorem dolmenlaw14_CleanWrites.calls (k : Nat) (a0 : Int) (a1 : Bool) (A2 : Option Addr) (c2 : Nat) (l2 : List Int) (r : Bool) (w : World) (hr2 : Kd.C (Kd.int .i64) w A2 l2.length l2) (hc2 : l2.length ≤ c2) (h : dolmenlaw14_CleanWrites.f k a0 a1 l2 = some r) :
    Calls Try.prog 7 #[.int .i64 a0, .bool a1, .slice A2 l2.length c2] w fun e w' => e = .returned (.bool r) ∧ Below w.heap.size w w' := by
  unfold dolmenlaw14_CleanWrites.f at h
  split at h
  · rename_i hc
    obtain rfl := Option.some.inj h
    have hm := hr2.2.1
    clear h hr2
    by_cases h0 : a0 < 1
    · have b0 : decide (a0 < 1) = true := decide_eq_true h0
      clear hc
      go_enter Try.func7, Try.ntmps7
      go_wp2_with (go_at_call 25; refine (aw_any _).mono ?_; rintro e w9 ⟨rfl, hb⟩; have HB := Aside0.mk hb; clear hb)
      go_ret
      exact ⟨rfl, HB.out⟩
    · have b0 : decide (a0 < 1) = false := decide_eq_false h0
      by_cases h1 : a0 > 30
      · have b1 : decide (30 < a0) = true := decide_eq_true h1
        clear hc
        go_enter Try.func7, Try.ntmps7
        go_wp2_with (go_at_call 25; refine (aw_any _).mono ?_; rintro e w9 ⟨rfl, hb⟩; have HB := Aside0.mk hb; clear hb)
        go_ret
        exact ⟨rfl, HB.out⟩
      · have b1 : decide (30 < a0) = false := decide_eq_false h1
        have b2 : decide (10 < (l2.length : Int)) = true := decide_eq_true (by omega)
        clear hc h0 h1
        go_enter Try.func7, Try.ntmps7
        go_wp2_with (go_at_call 25; refine (aw_any _).mono ?_; rintro e w9 ⟨rfl, hb⟩; have HB := Aside0.mk hb; clear hb)
        go_ret
        exact ⟨rfl, HB.out⟩
  · rename_i hc
    obtain ⟨n, rfl⟩ := Int.eq_ofNat_of_zero_le (show 0 ≤ a0 by omega)
    obtain ⟨rt, ht, h⟩ := Option.bind_eq_some_iff.mp h
    rw [Int.toNat_natCast] at ht h
    refine cw_any k n a1 A2 c2 l2 r w hr2 hc2 (by omega) (by omega) (by omega) rt ht ?_
    split at h
    · rename_i h5
      rw [if_pos h5]
      exact (Option.some.inj h).symm
    · rename_i h5
      rw [if_neg h5]
      exact (Option.some.inj h).symm

end Go.Proofs.Ytacdocchcfbgcaa.Q
