-- printed by wip/mp.py (the kit's print, with given functions); Lean checks it
import Derived.Test.YtacdocchcfbgcaaEx0
import Derived.Test.YtacdocchcfbgcaaEx4
namespace Go.Proofs.Ytacdocchcfbgcaa.Q
open Go.RowKit Go.Proofs.YtacdocchcfbgcaaW.PrintWords Go.Proofs.YtacdocchcfbgcaaW.PrintLast Go.Proofs.YtacdocchcfbgcaaW.PrintMore
attribute [local go_sem] max2_int min2_int max_two min_two max_three min_three max_four min_four   -- for this text's walks alone
set_option linter.unusedVariables false
set_option linter.unusedSimpArgs false

/-! ### slices_Clone_byte_byte: function 48, given -/
def slices_Clone_byte_byte.f (l0 : List Int) : Option (List Int) := if l0.length < 140737488351232 then some l0 else none
set_option maxHeartbeats 1000000 in
set_option maxRecDepth 100000 in
theorem slices_Clone_byte_byte.calls (A0 : Option Addr) (c0 : Nat) (l0 : List Int) (r : List Int) (w : World) (hr0 : Kd.C (Kd.int .u8) w A0 l0.length l0) (hc0 : l0.length ≤ c0) (h : slices_Clone_byte_byte.f l0 = some r) :
    Calls Try.prog 48 #[.slice A0 l0.length c0] w fun e w' => ∃ v0_ : Value, e = .returned v0_ ∧ Kd.R (Kd.int .u8) 5 w' w.heap.size (fun _ => True) v0_ r ∧ Below w.heap.size w w' := by
  unfold slices_Clone_byte_byte.f at h
  split at h
  · rename_i hl
    obtain rfl := Option.some.inj h
    clear h
    have HR := Aside0.mk hr0
    have HC := Aside0.mk hc0
    have HL := Aside0.mk hl
    clear hr0 hc0 hl
    have q1 : ∀ (W : World) (a : Option Addr) (n c : Nat), (binOp .eql 30 (.slice a n c) (.slice none 0 0)).run Try.prog W = .ok (.bool a.isNone) W := fun W a n c => Lib.run_eql_slice_nil W _ _ a n c 0 0 Try.underlying30
    cases A0 with
    | none =>
      have hz : Aside0 (l0 = []) := ⟨by
        cases l0 with
        | nil => rfl
        | cons a r => exact absurd (HR.out.2.2 (by simp)) (by simp)⟩
      go_enter Try.func48, Try.ntmps48
      go_wp2
      go_ret
      exact ⟨_, rfl, by rw [hz.out]; exact Kd.R_nil _ _ _ _ _, Below.refl _ _⟩
    | some ad =>
      go_enter Try.func48, Try.ntmps48
      go_wp2_with (first | ((with_reducible refine gate_dst (N := 5) rfl ?_); (try (refine gate_guard (by rfl) ?_; dsimp only)); (refine Kd.R_lit (Kd.int .u8) (w0 := w) w.heap.size 5 ?hg (N := 5) ?hd (xs := ([] : List Int)) (inner := []) (ok := fun _ => True) (okp := fun _ => True) ?hr ?hp (fun _ hk => hk) trivial (Below.refl _ _) (Nat.le_refl _) (by simp) ?_; (case hd => rfl); (case hg => rfl); (case hr => first | (go_simp; done) | (go_simp; rfl)); (case hp => exact Reps.none _ _); intro v240 w12 ho13 hb hg_ hnew_; have HE := Aside0.mk ho13; have HBe := Aside0.mk hb; have HCe := Aside0.mk (Kd.C_below HR.out hb); clear ho13 hb hg_ hnew_; obtain ⟨Ao14, co14, eo14⟩ := Kd.R_slice HE.out; subst eo14)) | ((with_reducible refine gate_builtin (b := .append) (xs := #[.tmp 5, .tmp 6]) rfl ?_); at_builtin; (refine Kd.R_append_rows (Kd.int .u8) (w0 := w) w.heap.size rfl (.tmp 5) (.tmp 6) 30 5 (.int .u8 0) 1 rfl Try.underlying30 (by rfl) rfl (by decide) (by omega) _ ([] : List Int) l0 _ _ _ (fun _ => True) (fun _ => False) rfl rfl ?aO ?aR (fun _ _ h => h) (fun _ h => h.elim) ?aF ?aB ?aS ?aL ?_; (case aR => exact Kd.C_below HR.out HBe.out); (case aB => exact HBe.out); (case aF => exact (fun k hk => trivial)); (case aO => exact HE.out); (case aS => exact below_size HBe.out); (case aL => have := HL.out; simp only [List.length_nil]; omega); intro v225 w16 ho hb hg hat; rw [List.nil_append] at ho; have HO := Aside0.mk ho; have HB := Aside0.mk hb; clear ho hb hg hat)))
      go_ret
      exact ⟨_, rfl, HO.out, HB.out⟩
  · cases h

/-! ### fold_sized: function 47 -/
def fold_sized.f (l0 : List Int) (a1 : Int) : Option (List Int) := if 0 ≤ (mn (l0.length : Int) a1) then (if (mn (l0.length : Int) a1) ≤ (l0.length : Int) then ((slices_Clone_byte_byte.f (l0.take ((mn (l0.length : Int) a1) : Int).toNat)).bind fun t117 => (if 0 ≤ (mx (wrap64 (a1 - (l0.length : Int))) 0) then (if t117.length + (mx (wrap64 (a1 - (l0.length : Int))) 0 : Int).toNat < 140737488355328 then (some (t117 ++ List.replicate (mx (wrap64 (a1 - (l0.length : Int))) 0 : Int).toNat 0)) else (none)) else (none))) else (none)) else (none)
set_option maxHeartbeats 8000000 in
set_option maxRecDepth 100000 in
theorem fold_sized.calls (A0 : Option Addr) (c0 : Nat) (l0 : List Int) (a1 : Int) (r : List Int) (w : World) (hr0 : Kd.C (Kd.int .u8) w A0 l0.length l0) (hc0 : l0.length ≤ c0) (h : fold_sized.f l0 a1 = some r) :
    Calls Try.prog 47 #[.slice A0 l0.length c0, .int .i64 a1] w fun e w' => ∃ v0_ : Value, e = .returned (v0_) ∧ Kd.R (Kd.int .u8) 5 w' w.heap.size (fun _ => True) v0_ r ∧ Below w.heap.size w w' := by
  have HR0 := Aside0.mk hr0
  have HC0 := Aside0.mk hc0
  clear hr0 hc0
  have HB := Aside0.mk (Below.refl w.heap.size w)
  have H : (if 0 ≤ (mn (l0.length : Int) a1) then (if (mn (l0.length : Int) a1) ≤ (l0.length : Int) then ((slices_Clone_byte_byte.f (l0.take ((mn (l0.length : Int) a1) : Int).toNat)).bind fun t117 => (if 0 ≤ (mx (wrap64 (a1 - (l0.length : Int))) 0) then (if t117.length + (mx (wrap64 (a1 - (l0.length : Int))) 0 : Int).toNat < 140737488355328 then (some (t117 ++ List.replicate (mx (wrap64 (a1 - (l0.length : Int))) 0 : Int).toNat 0)) else (none)) else (none))) else (none)) else (none)) = some r := h
  clear h
  obtain ⟨ji3, hji3⟩ : ∃ j_ : Int, (mn (l0.length : Int) a1) = j_ := ⟨_, rfl⟩
  replace H : (if 0 ≤ (ji3) then (if (ji3) ≤ (l0.length : Int) then ((slices_Clone_byte_byte.f (l0.take ((ji3) : Int).toNat)).bind fun t117 => (if 0 ≤ (mx (wrap64 (a1 - (l0.length : Int))) 0) then (if t117.length + (mx (wrap64 (a1 - (l0.length : Int))) 0 : Int).toNat < 140737488355328 then (some (t117 ++ List.replicate (mx (wrap64 (a1 - (l0.length : Int))) 0 : Int).toNat 0)) else (none)) else (none))) else (none)) else (none)) = some r := by first | (rw [hji3] at H; exact H) | (simp only [hji3] at H ⊢; exact H)
  have hji3_ : (if a1 < (l0.length : Int) then a1 else (l0.length : Int)) = ji3 := hji3
  by_cases c4 : 0 ≤ (ji3)
  · rw [if_pos c4] at H
    have c4b0 := eq_true c4
    have c4b1 : decide (0 ≤ (ji3)) = true := decide_eq_true c4
    clear c4
    by_cases c5 : (ji3) ≤ (l0.length : Int)
    · rw [if_pos c5] at H
      have c5b0 := eq_true c5
      have c5b1 : decide ((ji3) ≤ (l0.length : Int)) = true := decide_eq_true c5
      clear c5
      replace H := Option.bind_eq_some_iff.mp H
      obtain ⟨t117, A60, H⟩ := H
      replace H : (if 0 ≤ (mx (wrap64 (a1 - (l0.length : Int))) 0) then (if t117.length + (mx (wrap64 (a1 - (l0.length : Int))) 0 : Int).toNat < 140737488355328 then (some (t117 ++ List.replicate (mx (wrap64 (a1 - (l0.length : Int))) 0 : Int).toNat 0)) else (none)) else (none)) = some r := H
      have A6 := Aside0.mk A60
      clear A60
      obtain ⟨ji7, hji7⟩ : ∃ j_ : Int, (mx (wrap64 (a1 - (l0.length : Int))) 0) = j_ := ⟨_, rfl⟩
      replace H : (if 0 ≤ (ji7) then (if t117.length + (ji7 : Int).toNat < 140737488355328 then (some (t117 ++ List.replicate (ji7 : Int).toNat 0)) else (none)) else (none)) = some r := by first | (rw [hji7] at H; exact H) | (simp only [hji7] at H ⊢; exact H)
      (try rw [hji7] at A6)
      (try (have hji7l : 0 ≤ ji7 := by (rw [← hji7]; unfold mx; (repeat' split) <;> omega)))
      (try (have hji7m : 0 ≤ ji7 := by omega))
      have hji7_ : (if (wrap64 (a1 - (l0.length : Int))) < 0 then 0 else (wrap64 (a1 - (l0.length : Int)))) = ji7 := hji7
      by_cases c8 : 0 ≤ (ji7)
      · rw [if_pos c8] at H
        have c8b0 := eq_true c8
        have c8b1 : decide (0 ≤ (ji7)) = true := decide_eq_true c8
        clear c8
        by_cases c9 : t117.length + (ji7 : Int).toNat < 140737488355328
        · rw [if_pos c9] at H
          have LMc9 := Aside0.mk c9
          clear c9
          obtain ⟨y120, hy120⟩ : ∃ y_ : List Int, y_ = (t117 ++ List.replicate (ji7 : Int).toNat 0) := ⟨_, rfl⟩
          replace H : (some y120) = some r := by first | (rw [hy120]; with_reducible exact H) | (have H2_ := (Option.bind_some _ _).symm.trans H; rw [hy120]; with_reducible exact H2_) | (have H2_ := (Option.bind_some _ _).symm.trans H; with_reducible exact H2_) | with_reducible exact H | (rw [hy120]; exact H) | exact H
          have Ny120 := Aside0.mk hy120
          clear hy120
          obtain rfl := Option.some.inj H
          obtain ⟨i010, hi010, _, hsz10, _⟩ := info_parts info5
          obtain ⟨hcut10, hA10, hC10⟩ := print_take_of (P := Try.prog) (Value.int .u8) 0 30 5 .i64 Try.underlying30 hi010 hsz10 A0 c0 l0 (ji3) (of_decide_eq_true (by first | (with_reducible assumption) | assumption)) (of_decide_eq_true (by first | (with_reducible assumption) | assumption)) HC0.out
          have HR116 := Aside0.mk (Kd.C_of_reads (h1 := fun _ => rfl) (hA10 _ (Kd.reads_of_C HR0.out)))
          have HC116 := Aside0.mk hC10
          clear hA10 hC10 hi010 hsz10
          go_enter Try.func47, Try.ntmps47
          go_wp2_with (first | ((with_reducible refine gate_callee (f := 48) rfl ?_); refine goesL_ (some 11) rfl rfl Try.func48 (by kernel_rfl) rfl #[.slice A0 (l0.take ((ji3) : Int).toNat).length c0] rfl (by (try simp only [List.map_toArray, List.map_cons, List.map_nil]); first | done | (rw [show (l0.take ((ji3) : Int).toNat).length = (ji3).toNat from (by rw [List.length_take]; have h_ : ((ji3) : Int) ≤ (l0.length : Int) := of_decide_eq_true (by first | (with_reducible assumption) | assumption); omega)] <;> rfl) | (simp only [hji3]; rfl) | rfl | (simp only [List.length_drop, List.length_take]; rfl)) ?_; (with_reducible refine (slices_Clone_byte_byte.calls _ _ (l0.take ((ji3) : Int).toNat) t117 _ ?side1 ?side2 A6.out).mono ?_); (case side1 => repeat (first | exact HR116.out | (with_reducible refine Kd.C_alloc ?_ _) | (with_reducible refine Kd.C_drewN ?_ _) | (with_reducible refine Kd.C_drew ?_))); (case side2 => exact HC116.out); rintro e w11 ⟨v118, rfl, ho0, hb⟩; refine ⟨_, rfl, ?_⟩; have n0_ := Aside0.mk (Kd.R_lower ho0 (below_size (by repeat (first | (with_reducible first | exact HB.out | apply below_alloc | apply pw_below_drewN | apply below_drew1) | exact HB.out)))); have n1_ := Aside0.mk (below_step (by repeat (first | (with_reducible first | exact HB.out | apply below_alloc | apply pw_below_drewN | apply below_drew1) | exact HB.out)) hb); clear HB; have HO119 := n0_; have HB := n1_; clear n0_ n1_; (try clear hb); (try clear hb2); (try clear hk); (try clear hi); (try clear ho0)) | (at_builtin; refine Kd.R_append_zeros (Kd.int .u8) (w0 := w) w.heap.size rfl (.tmp 11) (.tmp 16) 30 3 5 (.int .u8 0) 1 rfl Try.underlying30 Try.underlying3 info5 rfl (by decide) (by omega) v118 t117 0 (ji7 : Int) (fun _ => True) rfl rfl rfl ?aF ?aO (of_decide_eq_true (by first | (with_reducible assumption) | assumption)) ?aB ?aS ?aL ?_; (case aB => exact (by repeat (first | (with_reducible first | exact HB.out | apply below_alloc | apply pw_below_drewN | apply below_drew1) | exact HB.out))); (case aF => exact (fun _ _ => trivial)); (case aO => exact (by (with_reducible repeat (first | apply Kd.R_alloc | apply Kd.R_drewN | apply Kd.R_drew)); exact HO119.out)); (case aS => exact (below_size (by repeat (first | (with_reducible first | exact HB.out | apply below_alloc | apply pw_below_drewN | apply below_drew1) | exact HB.out)))); (case aL => have := LMc9.out; omega); intro v121 w12 ho hb hg hat; rw [← Ny120.out] at ho; have n0_ := Aside0.mk (hb); have n1_ := Aside0.mk (ho); clear HB; clear HO119; have HB := n0_; have HO122 := n1_; clear n0_ n1_; clear ho hb hg hat))
          go_ret
          exact ⟨_, by first | rfl | (simp [errW_none, errW_some] <;> rfl) | (simp only [← hji3, ← hji7]; first | rfl | (simp [errW_none, errW_some] <;> rfl)) | (simp [*, errW_none, errW_some] <;> rfl), by (with_reducible repeat (first | apply Kd.R_alloc | apply Kd.R_drewN | apply Kd.R_drew)); exact HO122.out, by repeat (first | (with_reducible first | exact HB.out | apply below_alloc | apply pw_below_drewN | apply below_drew1) | exact HB.out)⟩
        · rw [if_neg c9] at H
          exact absurd H (by simp)
      · rw [if_neg c8] at H
        exact absurd H (by simp)
    · rw [if_neg c5] at H
      exact absurd H (by simp)
  · rw [if_neg c4] at H
    exact absurd H (by simp)

/-! ### fold_next: function 45, given -/
def fold_next.f (k : Nat) (l0 : List Int) (a1_0 : Int) (a1_1 : Int) (a1_2 : Int) (l1_3 : List Int) (a1_4 : ByteArray) (a1_5 : Int) : Option (List Int) :=
  (entry_Check.f k a1_0 a1_1 a1_2 l1_3 a1_4 a1_5).bind fun e => if e.isNone = true then
    (if a1_0 = 1 then (fold_sized.f l0 (mx (l0.length : Int) (wrap64 (a1_2 + (l1_3.length : Int))))).bind fun b => if 0 ≤ a1_2 ∧ 0 < l1_3.length ∧ a1_2.toNat + l1_3.length ≤ b.length ∧ b.length ≤ 9223372036854775807 then some (b.take a1_2.toNat ++ l1_3 ++ b.drop (a1_2.toNat + l1_3.length)) else none
     else if a1_0 = 2 then fold_sized.f l0 a1_2 else some l0) else some l0
theorem fold_next.mono : ∀ a0 a1 a2 a3 a4 a5 a6 k, LeO (fold_next.f k a0 a1 a2 a3 a4 a5 a6) (fold_next.f (k + 1) a0 a1 a2 a3 a4 a5 a6) := fun _ _ _ _ _ _ _ k => LeO.bind (entry_Check.mono _ _ _ _ _ _ _) (fun _ => LeO.refl _)
set_option maxHeartbeats 4000000 in
set_option maxRecDepth 100000 in
theorem fold_next.calls (k : Nat) (P0_ : Nat → Prop) (A0 : Option Addr) (c0 : Nat) (l0 : List Int) (a1_0 : Int) (a1_1 : Int) (a1_2 : Int) (A1_3 : Option Addr) (c1_3 : Nat) (l1_3 : List Int) (a1_4 : ByteArray) (a1_5 : Int) (r : List Int) (w : World) (hs0 : Kd.V (Kd.int .u8) 5 w w.heap.size (fun k_ => P0_ k_) (.slice A0 l0.length c0) l0) (hr1_3 : Kd.C (Kd.int .u8) w A1_3 l1_3.length l1_3) (hc1_3 : l1_3.length ≤ c1_3) (h : fold_next.f k l0 a1_0 a1_1 a1_2 l1_3 a1_4 a1_5 = some r) :
    Calls Try.prog 45 #[.slice A0 l0.length c0, .agg #[.int .i64 a1_0, .int .i64 a1_1, .int .i64 a1_2, .slice A1_3 l1_3.length c1_3, .string a1_4, .int .i64 a1_5]] w fun e w' => ∃ v0_ : Value, e = .returned v0_ ∧ Kd.V (Kd.int .u8) 5 w' w.heap.size (fun k_ => (P0_ k_ ∨ w.heap.size ≤ k_)) v0_ r ∧ Below w.heap.size w w' := by
  have HS := Aside0.mk hs0
  have HR := Aside0.mk hr1_3
  have HC := Aside0.mk hc1_3
  have hml := hr1_3.2.1
  clear hs0 hr1_3 hc1_3
  obtain ⟨e, he, h⟩ := Option.bind_eq_some_iff.mp h
  have HE := Aside0.mk he
  clear he
  cases e with
  | some q =>
    replace h : some l0 = some r := h
    obtain rfl := Option.some.inj h
    go_enter Try.func45, Try.ntmps45
    go_wp2_with (go_at_call 46; (refine (entry_Check.calls k a1_0 a1_1 a1_2 _ _ l1_3 a1_4 a1_5 _ _ (Kd.C_alloc HR.out _) HC.out HE.out).mono ?_; rintro e w4 ⟨rfl, hb⟩; have HB := Aside0.mk (below_then (below_alloc (Below.refl _ _) _) (by simp) hb); clear hb; simp only [errW_none, errW_some]))
    go_ret
    exact ⟨_, rfl, Kd.V_mono (Kd.V_below HS.out HB.out) (fun _ hk => .inl hk), HB.out⟩
  | none =>
    replace h : (if a1_0 = 1 then (fold_sized.f l0 (mx (l0.length : Int) (wrap64 (a1_2 + (l1_3.length : Int))))).bind fun b => if 0 ≤ a1_2 ∧ 0 < l1_3.length ∧ a1_2.toNat + l1_3.length ≤ b.length ∧ b.length ≤ 9223372036854775807 then some (b.take a1_2.toNat ++ l1_3 ++ b.drop (a1_2.toNat + l1_3.length)) else none
     else if a1_0 = 2 then fold_sized.f l0 a1_2 else some l0) = some r := h
    by_cases k1 : a1_0 = 1
    · subst k1
      rw [if_pos rfl] at h
      obtain ⟨b, hb, h⟩ := Option.bind_eq_some_iff.mp h
      split at h
      · rename_i hc
        obtain rfl := Option.some.inj h
        obtain ⟨h0, h1, h2, h3⟩ := hc
        obtain ⟨o, rfl⟩ := Int.eq_ofNat_of_zero_le h0
        rw [Int.toNat_natCast] at h2 ⊢
        have HSz := Aside0.mk hb
        have H1 := Aside0.mk h1
        have H2 := Aside0.mk h2
        clear h hb h1
        have hw : wrap64 ((o : Int) + (l1_3.length : Int)) = (o : Int) + (l1_3.length : Int) := by have := H2.out; unfold wrap64; omega
        rw [hw] at HSz
        clear hw
        by_cases hle : (o : Int) + (l1_3.length : Int) ≤ (l0.length : Int)
        · rw [show mx (l0.length : Int) ((o : Int) + (l1_3.length : Int)) = (l0.length : Int) from by unfold mx; split <;> omega] at HSz
          go_enter Try.func45, Try.ntmps45
          go_wp2_with (first | (go_at_call 46; (refine (entry_Check.calls k 1 a1_1 _ _ _ l1_3 a1_4 a1_5 _ _ (Kd.C_alloc HR.out _) HC.out HE.out).mono ?_; rintro e w4 ⟨rfl, hb⟩; have HB := Aside0.mk (below_then (below_alloc (Below.refl _ _) _) (by simp) hb); have BK := (hb.block _ (by simp)).trans (heap_alloc_new w _); have hcz_0 := blk_cell BK 0; have hcz_1 := blk_cell BK 1; have hcz_2 := blk_cell BK 2; have hcz_3 := blk_cell BK 3; have hcz_4 := blk_cell BK 4; have hcz_5 := blk_cell BK 5; have HBK := Aside0.mk BK; clear hb BK; simp only [errW_none, errW_some])) | (go_at_call 47; (refine (fold_sized.calls _ _ l0 _ b _ (Kd.C_below (Kd.V_reads' HS.out).2.2 HB.out) (Kd.V_reads' HS.out).2.1 HSz.out).mono ?_; rintro e w5 ⟨v5, rfl, ho, hb⟩; have BK := (hb.block _ (Array.getElem?_eq_some_iff.1 HBK.out).1).trans HBK.out; clear hcz_0 hcz_1 hcz_2 hcz_3 hcz_4 hcz_5; have hcz_0 := blk_cell BK 0; have hcz_1 := blk_cell BK 1; have hcz_2 := blk_cell BK 2; have hcz_3 := blk_cell BK 3; have hcz_4 := blk_cell BK 4; have hcz_5 := blk_cell BK 5; obtain ⟨gb, cb, rfl, hgb, hgl, _⟩ := Kd.R_form ho (by have := H1.out; have := H2.out; omega); have HO := Aside0.mk ho; have HB2 := Aside0.mk (below_then HB.out HB.out.size hb); have HG := Aside0.mk hgb; have HK5 := Aside0.mk BK; clear ho hb BK hgb hgl)))
          have hb1 : (o : Int) ≤ (b.length : Int) := by have := H2.out; omega
          have hb2 : (b.length : Int) ≤ (cb : Int) := by have := (Kd.R_reads' HO.out).2.1; omega
          have hb3 : ¬ cb = o := by have := H1.out; have := H2.out; omega
          obtain ⟨w6, hcopy, hR6, hg6⟩ := Go.Proofs.Ytacdocchcfbgcaa.HCopy.copy_at (t := 30) (t' := 30) (ty := 3) (c' := cb - o) (c := c1_3) (W := w5.drew) Try.underlying30 (by rfl) (Kd.R_drew HO.out) (Kd.C_drew (Kd.C_below HR.out HB2.out)) H1.out H2.out
          have HR6 := Aside0.mk hR6
          have HG6 := Aside0.mk hg6
          have hne : w.heap.size < gb := by have := (Array.getElem?_eq_some_iff.1 HBK.out).1; have := HG.out; omega
          have BK6 := (hg6.block w.heap.size (Array.getElem?_eq_some_iff.1 HK5.out).1 (by intro he; injection he with he; omega)).trans HK5.out
          have c6_2 := blk_cell BK6 2
          have c6_3 := blk_cell BK6 3
          clear hR6 hg6 hne BK6
          go_region_held3 (fun w' => w'.cell? ⟨w.heap.size, 2, none⟩ = some (.int .i64 (o : Int)) ∧ w'.cell? ⟨w.heap.size, 3, none⟩ = some (.slice A1_3 l1_3.length c1_3)) (go_keep) (fail)
          go_wp2
          go_ret
          exact ⟨_, rfl, Go.Proofs.Ytacdocchcfbgcaa.HCopy.R_V HR6.out (below_size HB.out), (Below.drew HB2.out).grown HG6.out (by simpa using below_size HB2.out) (fun q hq => by cases hq; exact Nat.le_trans (below_size HB.out) HG.out)⟩
        · rw [show mx (l0.length : Int) ((o : Int) + (l1_3.length : Int)) = (o : Int) + (l1_3.length : Int) from by unfold mx; split <;> omega] at HSz
          go_enter Try.func45, Try.ntmps45
          go_wp2_with (go_at_call 46; (refine (entry_Check.calls k 1 a1_1 _ _ _ l1_3 a1_4 a1_5 _ _ (Kd.C_alloc HR.out _) HC.out HE.out).mono ?_; rintro e w4 ⟨rfl, hb⟩; have HB := Aside0.mk (below_then (below_alloc (Below.refl _ _) _) (by simp) hb); have BK := (hb.block _ (by simp)).trans (heap_alloc_new w _); have hcz_0 := blk_cell BK 0; have hcz_1 := blk_cell BK 1; have hcz_2 := blk_cell BK 2; have hcz_3 := blk_cell BK 3; have hcz_4 := blk_cell BK 4; have hcz_5 := blk_cell BK 5; have HBK := Aside0.mk BK; clear hb BK; simp only [errW_none, errW_some]))
          have HX := fold_sized.calls A0 c0 l0 ((o : Int) + (l1_3.length : Int)) b w4 (Kd.C_below (Kd.V_reads' HS.out).2.2 HB.out) (Kd.V_reads' HS.out).2.1 HSz.out
          refine HX.mono ?_
          clear HX
          rintro e w5 ⟨v5, rfl, ho, hb⟩
          have BK := (hb.block _ (Array.getElem?_eq_some_iff.1 HBK.out).1).trans HBK.out
          clear hcz_0 hcz_1 hcz_2 hcz_3 hcz_4 hcz_5
          have hcz_0 := blk_cell BK 0
          have hcz_1 := blk_cell BK 1
          have hcz_2 := blk_cell BK 2
          have hcz_3 := blk_cell BK 3
          have hcz_4 := blk_cell BK 4
          have hcz_5 := blk_cell BK 5
          obtain ⟨gb, cb, rfl, hgb, hgl, _⟩ := Kd.R_form ho (by have := H1.out; have := H2.out; omega)
          have HO := Aside0.mk ho
          have HB2 := Aside0.mk (below_then HB.out HB.out.size hb)
          have HG := Aside0.mk hgb
          have HK5 := Aside0.mk BK
          clear ho hb BK hgb hgl
          go_wp2
          have hb1 : (o : Int) ≤ (b.length : Int) := by have := H2.out; omega
          have hb2 : (b.length : Int) ≤ (cb : Int) := by have := (Kd.R_reads' HO.out).2.1; omega
          have hb3 : ¬ cb = o := by have := H1.out; have := H2.out; omega
          obtain ⟨w6, hcopy, hR6, hg6⟩ := Go.Proofs.Ytacdocchcfbgcaa.HCopy.copy_at (t := 30) (t' := 30) (ty := 3) (c' := cb - o) (c := c1_3) (W := w5.drew) Try.underlying30 (by rfl) (Kd.R_drew HO.out) (Kd.C_drew (Kd.C_below HR.out HB2.out)) H1.out H2.out
          have HR6 := Aside0.mk hR6
          have HG6 := Aside0.mk hg6
          have hne : w.heap.size < gb := by have := (Array.getElem?_eq_some_iff.1 HBK.out).1; have := HG.out; omega
          have BK6 := (hg6.block w.heap.size (Array.getElem?_eq_some_iff.1 HK5.out).1 (by intro he; injection he with he; omega)).trans HK5.out
          have c6_2 := blk_cell BK6 2
          have c6_3 := blk_cell BK6 3
          clear hR6 hg6 hne BK6
          go_region_held3 (fun w' => w'.cell? ⟨w.heap.size, 2, none⟩ = some (.int .i64 (o : Int)) ∧ w'.cell? ⟨w.heap.size, 3, none⟩ = some (.slice A1_3 l1_3.length c1_3)) (go_keep) (fail)
          go_wp2
          go_ret
          exact ⟨_, rfl, Go.Proofs.Ytacdocchcfbgcaa.HCopy.R_V HR6.out (below_size HB.out), (Below.drew HB2.out).grown HG6.out (by simpa using below_size HB2.out) (fun q hq => by cases hq; exact Nat.le_trans (below_size HB.out) HG.out)⟩
      · cases h
    · have b1 : (a1_0 == 1) = false := by simpa using k1
      rw [if_neg k1] at h
      by_cases k2 : a1_0 = 2
      · subst k2
        rw [if_pos rfl] at h
        have HSz := Aside0.mk h
        clear h
        go_enter Try.func45, Try.ntmps45
        go_wp2_with (first | (go_at_call 46; (refine (entry_Check.calls k 2 a1_1 a1_2 _ _ l1_3 a1_4 a1_5 _ _ (Kd.C_alloc HR.out _) HC.out HE.out).mono ?_; rintro e w4 ⟨rfl, hb⟩; have HB := Aside0.mk (below_then (below_alloc (Below.refl _ _) _) (by simp) hb); have BK := (hb.block _ (by simp)).trans (heap_alloc_new w _); have hcz_0 := blk_cell BK 0; have hcz_1 := blk_cell BK 1; have hcz_2 := blk_cell BK 2; have hcz_3 := blk_cell BK 3; have hcz_4 := blk_cell BK 4; have hcz_5 := blk_cell BK 5; have HBK := Aside0.mk BK; clear hb BK; simp only [errW_none, errW_some])) | (go_at_call 47; (refine (fold_sized.calls _ _ l0 _ r _ (Kd.C_below (Kd.V_reads' HS.out).2.2 HB.out) (Kd.V_reads' HS.out).2.1 HSz.out).mono ?_; rintro e w5 ⟨v5, rfl, ho, hb⟩; have BK := (hb.block _ (Array.getElem?_eq_some_iff.1 HBK.out).1).trans HBK.out; clear hcz_0 hcz_1 hcz_2 hcz_3 hcz_4 hcz_5; have hcz_0 := blk_cell BK 0; have hcz_1 := blk_cell BK 1; have hcz_2 := blk_cell BK 2; have hcz_3 := blk_cell BK 3; have hcz_4 := blk_cell BK 4; have hcz_5 := blk_cell BK 5; have HO := Aside0.mk ho; have HB2 := Aside0.mk (below_then HB.out HB.out.size hb); clear ho hb BK)))
        go_ret
        exact ⟨_, rfl, Go.Proofs.Ytacdocchcfbgcaa.HCopy.R_V HO.out (below_size HB.out), HB2.out⟩
      · have b2 : (a1_0 == 2) = false := by simpa using k2
        rw [if_neg k2] at h
        obtain rfl := Option.some.inj h
        clear h
        go_enter Try.func45, Try.ntmps45
        go_wp2_with (go_at_call 46; (refine (entry_Check.calls k a1_0 a1_1 a1_2 _ _ l1_3 a1_4 a1_5 _ _ (Kd.C_alloc HR.out _) HC.out HE.out).mono ?_; rintro e w4 ⟨rfl, hb⟩; have HB := Aside0.mk (below_then (below_alloc (Below.refl _ _) _) (by simp) hb); have BK := (hb.block _ (by simp)).trans (heap_alloc_new w _); have hcz_0 := blk_cell BK 0; have hcz_1 := blk_cell BK 1; have hcz_2 := blk_cell BK 2; have hcz_3 := blk_cell BK 3; have hcz_4 := blk_cell BK 4; have hcz_5 := blk_cell BK 5; have HBK := Aside0.mk BK; clear hb BK; simp only [errW_none, errW_some]))
        go_ret
        exact ⟨_, rfl, Kd.V_mono (Kd.V_below HS.out HB.out) (fun _ hk => .inl hk), HB.out⟩

/-! ### fold_File: function 23 -/
def fold_File.l0 : Nat → Int → List Int → List (S50) → Int → Int → Option (List Int)
  | 0, _, _, _, _, _ => none
  | k + 1, x1, x4, x7, x8, x9 => if x9 < x8 then (if 0 ≤ x9 then (if x9 < (x7.length : Int) then (if ((rd_T50 x7 x9).f1) ≤ x1 then ((fold_next.f k x4 ((rd_T50 x7 x9).f0) ((rd_T50 x7 x9).f1) ((rd_T50 x7 x9).f2) ((rd_T50 x7 x9).f3) ((rd_T50 x7 x9).f4) ((rd_T50 x7 x9).f5)).bind fun t125 => (fold_File.l0 k x1 t125 x7 x8 (wrap64 (x9 + 1)))) else (fold_File.l0 k x1 x4 x7 x8 (wrap64 (x9 + 1)))) else (none)) else (none)) else (some x4)
def fold_File.f (k : Nat) (l0 : List (S50)) (a1 : Int) : Option (List Int) := fold_File.l0 k a1 ([] : List Int) l0 (l0.length : Int) 0
theorem fold_File.mono_l : ∀ k, (∀ y0 y1 y2 y3 y4, LeO (fold_File.l0 k y0 y1 y2 y3 y4) (fold_File.l0 (k + 1) y0 y1 y2 y3 y4))
  | 0 => fun _ _ _ _ _ r h => by simp [fold_File.l0] at h
  | k + 1 => by
    have ih0 := fold_File.mono_l k
    · intro y0 y1 y2 y3 y4
      unfold fold_File.l0
      repeat' first
      | (with_reducible exact ih0 _ _ _ _ _)
      | (with_reducible exact fold_next.mono _ _ _ _ _ _ _ _)
      | (with_reducible exact LeO.refl _)
      | (with_reducible exact LeO.none _)
      | (with_reducible refine LeO.ite ?_ ?_)
      | (with_reducible refine LeO.bind ?_ (fun _ => ?_))
      | exact ih0 _ _ _ _ _
      | exact fold_next.mono _ _ _ _ _ _ _ _
      | exact LeO.none _
      | refine LeO.ite ?_ ?_
      | refine LeO.bind ?_ (fun _ => ?_)
theorem fold_File.mono : ∀ a0 a1 k, LeO (fold_File.f k a0 a1) (fold_File.f (k + 1) a0 a1) := by
  intro a0 a1 k
  have ih0 := fold_File.mono_l k
  unfold fold_File.f
  repeat' first
      | (with_reducible exact ih0 _ _ _ _ _)
      | (with_reducible exact fold_next.mono _ _ _ _ _ _ _ _)
      | (with_reducible exact LeO.refl _)
      | (with_reducible exact LeO.none _)
      | (with_reducible refine LeO.ite ?_ ?_)
      | (with_reducible refine LeO.bind ?_ (fun _ => ?_))
      | exact ih0 _ _ _ _ _
      | exact fold_next.mono _ _ _ _ _ _ _ _
      | exact LeO.none _
      | refine LeO.ite ?_ ?_
      | refine LeO.bind ?_ (fun _ => ?_)
set_option maxHeartbeats 8000000 in
set_option maxRecDepth 100000 in
theorem fold_File.calls (k : Nat) (A0 : Option Addr) (c0 : Nat) (l0 : List (S50)) (a1 : Int) (r : List Int) (w : World) (hr0 : Kd.C k50 w A0 l0.length l0) (hc0 : l0.length ≤ c0) (h : fold_File.f k l0 a1 = some r) :
    Calls Try.prog 23 #[.slice A0 l0.length c0, .int .i64 a1] w fun e w' => ∃ v0_ : Value, e = .returned (v0_) ∧ Kd.V (Kd.int .u8) 5 w' w.heap.size (fun k_ => (w.heap.size ≤ k_)) v0_ r ∧ Below w.heap.size w w' := by
  have hu50 := Try.underlying50
  have HR0 := Aside0.mk hr0
  have HC0 := Aside0.mk hc0
  clear hr0 hc0
  have HB := Aside0.mk (Below.refl w.heap.size w)
  have H : (fold_File.l0 k a1 ([] : List Int) l0 (l0.length : Int) 0) = some r := h
  clear h
  have H' := Aside0.mk H
  clear H
  go_enter Try.func23, Try.ntmps23
  go_wp2
  go_loopg [4, 9] k (fun kq v4 v9 w' => ∃ (x4_1 : List Int) (x9_1 : Int), v9 = .int .i64 x9_1 ∧ Aside0 (fold_File.l0 kq a1 x4_1 l0 (l0.length : Int) x9_1 = some r) ∧ Aside0 (kq ≤ k) ∧ Aside0 (Kd.V (Kd.int .u8) 5 w' w.heap.size (fun k_ => (w.heap.size ≤ k_)) v4 x4_1) ∧ Aside0 (Below w.heap.size w w'))
  case atStart => exact ⟨(([] : List Int)), (0), (by first | rfl | (simp; done) | (simp [*]; done)), H', ⟨Nat.le_refl _⟩, ⟨(by first | exact Kd.V_nil _ _ _ _ _ | exact Kd.R_V (by first | exact Kd.R_nil _ _ _ _ _ | exact Kd.N_nil _ _ _ _ _ | exact Kd.V_nil _ _ _ _ _ | exact Kd.Q_nil _ _ _ _ _ | exact Kd.S_nil _ _ _ _ _))⟩, ⟨by repeat (first | (with_reducible first | exact HB.out | apply below_alloc | apply pw_below_drewN | apply below_drew1) | exact HB.out)⟩⟩
  case round =>
    clear H'
    (try clear c2); (try clear p2)
    obtain ⟨x4_1, x9_1, rfl, HA, HK1, HO_4, HB⟩ := hrel
    cases gk with
    | zero => exact absurd HA.out (by simp [fold_File.l0])
    | succ k1 =>
      have H := HA.out
      clear HA
      simp only [fold_File.l0] at H
      by_cases c3 : x9_1 < (l0.length : Int)
      · rw [if_pos c3] at H
        have c3b0 : decide (x9_1 < (l0.length : Int)) = true := decide_eq_true c3
        clear c3
        by_cases c4 : 0 ≤ x9_1
        · rw [if_pos c4] at H
          have c4b0 : decide (0 ≤ x9_1) = true := decide_eq_true c4
          clear c4
          by_cases c5 : x9_1 < (l0.length : Int)
          · rw [if_pos c5] at H
            have c5b0 : decide (x9_1 < (l0.length : Int)) = true := decide_eq_true c5
            clear c5
            by_cases c6 : ((rd_T50 l0 x9_1).f1) ≤ a1
            · rw [if_pos c6] at H
              have c6b0 : decide (((rd_T50 l0 x9_1).f1) ≤ a1) = true := decide_eq_true c6
              clear c6
              replace H := Option.bind_eq_some_iff.mp H
              obtain ⟨t125, A70, H⟩ := H
              replace H : (fold_File.l0 k1 a1 t125 l0 (l0.length : Int) (wrap64 (x9_1 + 1))) = some r := H
              have A7 := Aside0.mk A70
              clear A70
              have H' := Aside0.mk H
              clear H
              have p123 : 0 ≤ (x9_1 : Int) := of_decide_eq_true (by first | (with_reducible assumption) | assumption)
              have q123 : x9_1 < (l0.length : Int) := of_decide_eq_true (by first | (with_reducible assumption) | assumption)
              obtain ⟨ad123, A123_3, c123_3, e123, hx123_0, hx123_1, hx123_2, hx123_3, hx123_4, hx123_5, hl123_3, hi123_3⟩ := at_T50 HR0.out x9_1 p123 q123
              cases e123
              replace hx123_0 := (HB.out.cell (World.block_lt_of_cell? w _ hx123_0)).trans hx123_0
              replace hx123_1 := (HB.out.cell (World.block_lt_of_cell? w _ hx123_1)).trans hx123_1
              replace hx123_2 := (HB.out.cell (World.block_lt_of_cell? w _ hx123_2)).trans hx123_2
              replace hx123_3 := (HB.out.cell (World.block_lt_of_cell? w _ hx123_3)).trans hx123_3
              replace hx123_4 := (HB.out.cell (World.block_lt_of_cell? w _ hx123_4)).trans hx123_4
              replace hx123_5 := (HB.out.cell (World.block_lt_of_cell? w _ hx123_5)).trans hx123_5
              have HR123_3 := Aside0.mk hi123_3
              have HC123_3 := Aside0.mk hl123_3
              clear hi123_3 hl123_3
              replace p123 := eq_true p123
              replace q123 := eq_true q123
              go_wp2_with (first | ((with_reducible refine gate_dst (N := 6) rfl ?_); refine box_event ?hg (N := 6) ?hd (cs := #[.int .i64 0, .int .i64 0, .int .i64 0, .slice none 0 0, .string (⟨#[]⟩ : ByteArray), .int .i64 0]) (t := 50) ?hr ?_; (case hd => rfl); (case hg => rfl); (case hr => first | (go_simp; done) | (go_simp; rfl)); intro gb124 hg w8 hbox hb; have n0_ := Aside0.mk (Kd.V_below (Kd.V_elderB (by (with_reducible repeat (first | apply Kd.V_alloc | apply Kd.V_drewN | apply Kd.V_drew)); exact HO_4.out) gb124 (Nat.le_of_eq hg.symm)) hb); have n1_ := Aside0.mk (below_step (by repeat (first | (with_reducible first | exact HB.out | apply below_alloc | apply pw_below_drewN | apply below_drew1) | exact HB.out)) hb); have n2_ := Aside0.mk (hbox); have n3_ := Aside0.mk ((by rw [hg]; exact (below_size (by repeat (first | (with_reducible first | exact HB.out | apply below_alloc | apply pw_below_drewN | apply below_drew1) | exact HB.out))) : w.heap.size ≤ gb124)); have n4_ := Aside0.mk ((by rw [hg]; exact (below_size (by repeat (first | (with_reducible first | exact HB.out | apply below_alloc | apply pw_below_drewN | apply below_drew1) | exact HB.out))) : w.heap.size ≤ gb124)); clear HO_4; clear HB; have HO_4 := n0_; have HB := n1_; have BK124 := n2_; have GW124 := n3_; have GE124 := n4_; clear n0_ n1_ n2_ n3_ n4_; clear hb hbox hg; have hcz9_0 : w8.cell? ⟨gb124, 0, none⟩ = some (.int .i64 0) := (blk_cell BK124.out 0).trans rfl; have hcz9_1 : w8.cell? ⟨gb124, 1, none⟩ = some (.int .i64 0) := (blk_cell BK124.out 1).trans rfl; have hcz9_2 : w8.cell? ⟨gb124, 2, none⟩ = some (.int .i64 0) := (blk_cell BK124.out 2).trans rfl; have hcz9_3 : w8.cell? ⟨gb124, 3, none⟩ = some (.slice none 0 0) := (blk_cell BK124.out 3).trans rfl; have hcz9_4 : w8.cell? ⟨gb124, 4, none⟩ = some (.string (⟨#[]⟩ : ByteArray)) := (blk_cell BK124.out 4).trans rfl; have hcz9_5 : w8.cell? ⟨gb124, 5, none⟩ = some (.int .i64 0) := (blk_cell BK124.out 5).trans rfl; have hfz9_0 := blk_frozen BK124.out 0; have hfz9_1 := blk_frozen BK124.out 1; have hfz9_2 := blk_frozen BK124.out 2; have hfz9_3 := blk_frozen BK124.out 3; have hfz9_4 := blk_frozen BK124.out 4; have hfz9_5 := blk_frozen BK124.out 5) | ((with_reducible refine gate_store (t := 50) (p := 6) rfl ?_); refine store_event (t := 50) (p := 6) (v := ?vo_w10) (w1 := ((((((w8.setCell ⟨gb124, 0, none⟩ (.int .i64 ((rd_T50 l0 x9_1).f0))).setCell ⟨gb124, 1, none⟩ (.int .i64 ((rd_T50 l0 x9_1).f1))).setCell ⟨gb124, 2, none⟩ (.int .i64 ((rd_T50 l0 x9_1).f2))).setCell ⟨gb124, 3, none⟩ (.slice A123_3 ((rd_T50 l0 x9_1).f3).length c123_3)).setCell ⟨gb124, 4, none⟩ (.string ((rd_T50 l0 x9_1).f4))).setCell ⟨gb124, 5, none⟩ (.int .i64 ((rd_T50 l0 x9_1).f5)))) ?hg ?ho ?hn ?hr ?_; (case ho => rfl); (case hg => rfl); (case hn => rfl); (case hr => first | (go_simp; done) | (go_simp; rfl)); intro w10 hw; have n0_ : Aside0 (Kd.V (Kd.int .u8) 5 w10 w.heap.size (fun k_ => (w.heap.size ≤ k_) ∧ k_ ≠ gb124) u4 x4_1) := ⟨(by rw [hw]; exact (by (with_reducible repeat (first | apply Kd.V_alloc | apply Kd.V_drewN | apply Kd.V_drew)); exact Kd.V_mono (Kd.V_far (p := ⟨gb124, 5, none⟩) (Kd.V_far (p := ⟨gb124, 4, none⟩) (Kd.V_far (p := ⟨gb124, 3, none⟩) (Kd.V_far (p := ⟨gb124, 2, none⟩) (Kd.V_far (p := ⟨gb124, 1, none⟩) (Kd.V_far (p := ⟨gb124, 0, none⟩) (Kd.V_mono HO_4.out (fun k_ hk => (⟨hk, hk.2⟩ : _ ∧ k_ ≠ gb124))) (fun _ hk => hk.2) (.int .i64 ((rd_T50 l0 x9_1).f0))) (fun _ hk => hk.2) (.int .i64 ((rd_T50 l0 x9_1).f1))) (fun _ hk => hk.2) (.int .i64 ((rd_T50 l0 x9_1).f2))) (fun _ hk => hk.2) (.slice A123_3 ((rd_T50 l0 x9_1).f3).length c123_3)) (fun _ hk => hk.2) (.string ((rd_T50 l0 x9_1).f4))) (fun _ hk => hk.2) (.int .i64 ((rd_T50 l0 x9_1).f5))) (fun _ hk => ⟨hk.1.1, hk.1.2⟩)))⟩; have n1_ : Aside0 (w10.heap[gb124]? = some (.cells #[.int .i64 ((rd_T50 l0 x9_1).f0), .int .i64 ((rd_T50 l0 x9_1).f1), .int .i64 ((rd_T50 l0 x9_1).f2), .slice A123_3 ((rd_T50 l0 x9_1).f3).length c123_3, .string ((rd_T50 l0 x9_1).f4), .int .i64 ((rd_T50 l0 x9_1).f5)] 50 (0, 0))) := ⟨(by rw [hw]; exact (by (with_reducible repeat (first | refine blk_drewN ?_ _ | refine blk_drew ?_ | refine blk_alloc ?_ _)); refine blk_put (cs := #[.int .i64 ((rd_T50 l0 x9_1).f0), .int .i64 ((rd_T50 l0 x9_1).f1), .int .i64 ((rd_T50 l0 x9_1).f2), .slice A123_3 ((rd_T50 l0 x9_1).f3).length c123_3, .string ((rd_T50 l0 x9_1).f4), .int .i64 0]) ?_ 5 _ rfl; (with_reducible repeat (first | refine blk_drewN ?_ _ | refine blk_drew ?_ | refine blk_alloc ?_ _)); refine blk_put (cs := #[.int .i64 ((rd_T50 l0 x9_1).f0), .int .i64 ((rd_T50 l0 x9_1).f1), .int .i64 ((rd_T50 l0 x9_1).f2), .slice A123_3 ((rd_T50 l0 x9_1).f3).length c123_3, .string (⟨#[]⟩ : ByteArray), .int .i64 0]) ?_ 4 _ rfl; (with_reducible repeat (first | refine blk_drewN ?_ _ | refine blk_drew ?_ | refine blk_alloc ?_ _)); refine blk_put (cs := #[.int .i64 ((rd_T50 l0 x9_1).f0), .int .i64 ((rd_T50 l0 x9_1).f1), .int .i64 ((rd_T50 l0 x9_1).f2), .slice none 0 0, .string (⟨#[]⟩ : ByteArray), .int .i64 0]) ?_ 3 _ rfl; (with_reducible repeat (first | refine blk_drewN ?_ _ | refine blk_drew ?_ | refine blk_alloc ?_ _)); refine blk_put (cs := #[.int .i64 ((rd_T50 l0 x9_1).f0), .int .i64 ((rd_T50 l0 x9_1).f1), .int .i64 0, .slice none 0 0, .string (⟨#[]⟩ : ByteArray), .int .i64 0]) ?_ 2 _ rfl; (with_reducible repeat (first | refine blk_drewN ?_ _ | refine blk_drew ?_ | refine blk_alloc ?_ _)); refine blk_put (cs := #[.int .i64 ((rd_T50 l0 x9_1).f0), .int .i64 0, .int .i64 0, .slice none 0 0, .string (⟨#[]⟩ : ByteArray), .int .i64 0]) ?_ 1 _ rfl; (with_reducible repeat (first | refine blk_drewN ?_ _ | refine blk_drew ?_ | refine blk_alloc ?_ _)); refine blk_put (cs := #[.int .i64 0, .int .i64 0, .int .i64 0, .slice none 0 0, .string (⟨#[]⟩ : ByteArray), .int .i64 0]) ?_ 0 _ rfl; (with_reducible repeat (first | refine blk_drewN ?_ _ | refine blk_drew ?_ | refine blk_alloc ?_ _)); exact BK124.out))⟩; have n2_ : Aside0 (Below w.heap.size w w10) := ⟨(by rw [hw]; exact (by repeat (first | (with_reducible first | exact HB.out | apply below_alloc | apply pw_below_drewN | apply below_drew1 | refine below_set ?_ GE124.out) | exact HB.out)))⟩; clear hw; clear HO_4; clear BK124; clear HB; have HO_4 := n0_; have BK124 := n1_; have HB := n2_; clear n0_ n1_ n2_; have hcz11_0 : w10.cell? ⟨gb124, 0, none⟩ = some (.int .i64 ((rd_T50 l0 x9_1).f0)) := (blk_cell BK124.out 0).trans rfl; have hcz11_1 : w10.cell? ⟨gb124, 1, none⟩ = some (.int .i64 ((rd_T50 l0 x9_1).f1)) := (blk_cell BK124.out 1).trans rfl; have hcz11_2 : w10.cell? ⟨gb124, 2, none⟩ = some (.int .i64 ((rd_T50 l0 x9_1).f2)) := (blk_cell BK124.out 2).trans rfl; have hcz11_3 : w10.cell? ⟨gb124, 3, none⟩ = some (.slice A123_3 ((rd_T50 l0 x9_1).f3).length c123_3) := (blk_cell BK124.out 3).trans rfl; have hcz11_4 : w10.cell? ⟨gb124, 4, none⟩ = some (.string ((rd_T50 l0 x9_1).f4)) := (blk_cell BK124.out 4).trans rfl; have hcz11_5 : w10.cell? ⟨gb124, 5, none⟩ = some (.int .i64 ((rd_T50 l0 x9_1).f5)) := (blk_cell BK124.out 5).trans rfl; have hfz11_0 := blk_frozen BK124.out 0; have hfz11_1 := blk_frozen BK124.out 1; have hfz11_2 := blk_frozen BK124.out 2; have hfz11_3 := blk_frozen BK124.out 3; have hfz11_4 := blk_frozen BK124.out 4; have hfz11_5 := blk_frozen BK124.out 5; obtain ⟨Ao12, co12, eo12⟩ := Kd.V_slice HO_4.out; subst eo12) | ((with_reducible refine gate_callee (f := 45) rfl ?_); refine goesL_ (some 19) rfl rfl Try.func45 (by kernel_rfl) rfl #[.slice Ao12 x4_1.length co12, .agg #[.int .i64 ((rd_T50 l0 x9_1).f0), .int .i64 ((rd_T50 l0 x9_1).f1), .int .i64 ((rd_T50 l0 x9_1).f2), .slice A123_3 ((rd_T50 l0 x9_1).f3).length c123_3, .string ((rd_T50 l0 x9_1).f4), .int .i64 ((rd_T50 l0 x9_1).f5)]] rfl (by (try simp only [List.map_toArray, List.map_cons, List.map_nil]); first | done | rfl | (simp only [List.length_drop, List.length_take]; rfl)) ?_; (with_reducible refine (fold_next.calls k1 (fun k_ => ((w.heap.size ≤ k_) ∧ k_ ≠ gb124)) _ _ x4_1 ((rd_T50 l0 x9_1).f0) ((rd_T50 l0 x9_1).f1) ((rd_T50 l0 x9_1).f2) _ _ ((rd_T50 l0 x9_1).f3) ((rd_T50 l0 x9_1).f4) ((rd_T50 l0 x9_1).f5) t125 _ ?side1 ?side2 ?side3 A7.out).mono ?_); (case side1 => exact HO_4.out); (case side2 => repeat (first | exact (Kd.C_below HR123_3.out HB.out) | (with_reducible refine Kd.C_alloc ?_ _) | (with_reducible refine Kd.C_drewN ?_ _) | (with_reducible refine Kd.C_drew ?_))); (case side3 => exact HC123_3.out); rintro e w13 ⟨v126, rfl, ho0, hb⟩; refine ⟨_, rfl, ?_⟩; have n0_ := Aside0.mk (Kd.V_below (by (with_reducible repeat (first | apply Kd.V_alloc | apply Kd.V_drewN | apply Kd.V_drew)); exact HO_4.out) hb); have n1_ := Aside0.mk (Kd.V_lower (Kd.V_mono (ok' := fun k_ => (w.heap.size ≤ k_) ∧ k_ ≠ gb124) ho0 (fun k_ hk_ => ⟨Or.elim hk_ (fun hs_ => hs_.1) (fun hn_ => (Nat.le_trans (below_size (by repeat (first | (with_reducible first | exact HB.out | apply below_alloc | apply pw_below_drewN | apply below_drew1 | refine below_set ?_ GE124.out) | exact HB.out))) hn_)), Or.elim hk_ (fun hs_ => hs_.2) (fun hn_ => (Kd.freshB (g := gb124) (o := .cells #[.int .i64 ((rd_T50 l0 x9_1).f0), .int .i64 ((rd_T50 l0 x9_1).f1), .int .i64 ((rd_T50 l0 x9_1).f2), .slice A123_3 ((rd_T50 l0 x9_1).f3).length c123_3, .string ((rd_T50 l0 x9_1).f4), .int .i64 ((rd_T50 l0 x9_1).f5)] 50 (0, 0)) (by (with_reducible repeat (first | refine blk_drewN ?_ _ | refine blk_drew ?_ | refine blk_alloc ?_ _)); exact BK124.out) k_ hn_))⟩)) (below_size (by repeat (first | (with_reducible first | exact HB.out | apply below_alloc | apply pw_below_drewN | apply below_drew1 | refine below_set ?_ GE124.out) | exact HB.out)))); have n2_ := Aside0.mk (blk_below (g := gb124) (o := .cells #[.int .i64 ((rd_T50 l0 x9_1).f0), .int .i64 ((rd_T50 l0 x9_1).f1), .int .i64 ((rd_T50 l0 x9_1).f2), .slice A123_3 ((rd_T50 l0 x9_1).f3).length c123_3, .string ((rd_T50 l0 x9_1).f4), .int .i64 ((rd_T50 l0 x9_1).f5)] 50 (0, 0)) (by (with_reducible repeat (first | refine blk_drewN ?_ _ | refine blk_drew ?_ | refine blk_alloc ?_ _)); exact BK124.out) hb); have n3_ := Aside0.mk (below_step (by repeat (first | (with_reducible first | exact HB.out | apply below_alloc | apply pw_below_drewN | apply below_drew1 | refine below_set ?_ GE124.out) | exact HB.out)) hb); clear HO_4; clear BK124; clear HB; have HO_4 := n0_; have HO127 := n1_; have BK124 := n2_; have HB := n3_; clear n0_ n1_ n2_ n3_; (try clear hb); (try clear hb2); (try clear hk); (try clear hi); (try clear ho0)))
              go_roundg k1
              case measure => have := HK1.out; omega
              case rel => exact ⟨(t125), (wrap64 (x9_1 + 1)), (by first | rfl | (simp; done) | (simp [*]; done)), H', ⟨by have := HK1.out; omega⟩, ⟨by (with_reducible repeat (first | apply Kd.V_alloc | apply Kd.V_drewN | apply Kd.V_drew)); exact Kd.V_mono HO127.out (fun _ hk => hk.1)⟩, ⟨by repeat (first | (with_reducible first | exact HB.out | apply below_alloc | apply pw_below_drewN | apply below_drew1 | refine below_set ?_ GE124.out) | exact HB.out)⟩⟩
            · rw [if_neg c6] at H
              have c6b0 : decide (((rd_T50 l0 x9_1).f1) ≤ a1) = false := decide_eq_false c6
              clear c6
              have H' := Aside0.mk H
              clear H
              have p123 : 0 ≤ (x9_1 : Int) := of_decide_eq_true (by first | (with_reducible assumption) | assumption)
              have q123 : x9_1 < (l0.length : Int) := of_decide_eq_true (by first | (with_reducible assumption) | assumption)
              obtain ⟨ad123, A123_3, c123_3, e123, hx123_0, hx123_1, hx123_2, hx123_3, hx123_4, hx123_5, hl123_3, hi123_3⟩ := at_T50 HR0.out x9_1 p123 q123
              cases e123
              replace hx123_0 := (HB.out.cell (World.block_lt_of_cell? w _ hx123_0)).trans hx123_0
              replace hx123_1 := (HB.out.cell (World.block_lt_of_cell? w _ hx123_1)).trans hx123_1
              replace hx123_2 := (HB.out.cell (World.block_lt_of_cell? w _ hx123_2)).trans hx123_2
              replace hx123_3 := (HB.out.cell (World.block_lt_of_cell? w _ hx123_3)).trans hx123_3
              replace hx123_4 := (HB.out.cell (World.block_lt_of_cell? w _ hx123_4)).trans hx123_4
              replace hx123_5 := (HB.out.cell (World.block_lt_of_cell? w _ hx123_5)).trans hx123_5
              have HR123_3 := Aside0.mk hi123_3
              have HC123_3 := Aside0.mk hl123_3
              clear hi123_3 hl123_3
              replace p123 := eq_true p123
              replace q123 := eq_true q123
              go_wp2_with (first | ((with_reducible refine gate_dst (N := 6) rfl ?_); refine box_event ?hg (N := 6) ?hd (cs := #[.int .i64 0, .int .i64 0, .int .i64 0, .slice none 0 0, .string (⟨#[]⟩ : ByteArray), .int .i64 0]) (t := 50) ?hr ?_; (case hd => rfl); (case hg => rfl); (case hr => first | (go_simp; done) | (go_simp; rfl)); intro gb124 hg w14 hbox hb; have n0_ := Aside0.mk (Kd.V_below (Kd.V_elderB (by (with_reducible repeat (first | apply Kd.V_alloc | apply Kd.V_drewN | apply Kd.V_drew)); exact HO_4.out) gb124 (Nat.le_of_eq hg.symm)) hb); have n1_ := Aside0.mk (below_step (by repeat (first | (with_reducible first | exact HB.out | apply below_alloc | apply pw_below_drewN | apply below_drew1) | exact HB.out)) hb); have n2_ := Aside0.mk (hbox); have n3_ := Aside0.mk ((by rw [hg]; exact (below_size (by repeat (first | (with_reducible first | exact HB.out | apply below_alloc | apply pw_below_drewN | apply below_drew1) | exact HB.out))) : w.heap.size ≤ gb124)); have n4_ := Aside0.mk ((by rw [hg]; exact (below_size (by repeat (first | (with_reducible first | exact HB.out | apply below_alloc | apply pw_below_drewN | apply below_drew1) | exact HB.out))) : w.heap.size ≤ gb124)); clear HO_4; clear HB; have HO_4 := n0_; have HB := n1_; have BK124 := n2_; have GW124 := n3_; have GE124 := n4_; clear n0_ n1_ n2_ n3_ n4_; clear hb hbox hg; have hcz15_0 : w14.cell? ⟨gb124, 0, none⟩ = some (.int .i64 0) := (blk_cell BK124.out 0).trans rfl; have hcz15_1 : w14.cell? ⟨gb124, 1, none⟩ = some (.int .i64 0) := (blk_cell BK124.out 1).trans rfl; have hcz15_2 : w14.cell? ⟨gb124, 2, none⟩ = some (.int .i64 0) := (blk_cell BK124.out 2).trans rfl; have hcz15_3 : w14.cell? ⟨gb124, 3, none⟩ = some (.slice none 0 0) := (blk_cell BK124.out 3).trans rfl; have hcz15_4 : w14.cell? ⟨gb124, 4, none⟩ = some (.string (⟨#[]⟩ : ByteArray)) := (blk_cell BK124.out 4).trans rfl; have hcz15_5 : w14.cell? ⟨gb124, 5, none⟩ = some (.int .i64 0) := (blk_cell BK124.out 5).trans rfl; have hfz15_0 := blk_frozen BK124.out 0; have hfz15_1 := blk_frozen BK124.out 1; have hfz15_2 := blk_frozen BK124.out 2; have hfz15_3 := blk_frozen BK124.out 3; have hfz15_4 := blk_frozen BK124.out 4; have hfz15_5 := blk_frozen BK124.out 5))
              go_roundg k1
              case measure => have := HK1.out; omega
              case rel => exact ⟨(x4_1), (wrap64 (x9_1 + 1)), (by first | rfl | (simp; done) | (simp [*]; done)), H', ⟨by have := HK1.out; omega⟩, ⟨by (with_reducible repeat (first | apply Kd.V_alloc | apply Kd.V_drewN | apply Kd.V_drew)); exact Kd.V_mono (Kd.V_far (p := ⟨gb124, 5, none⟩) (Kd.V_far (p := ⟨gb124, 4, none⟩) (Kd.V_far (p := ⟨gb124, 3, none⟩) (Kd.V_far (p := ⟨gb124, 2, none⟩) (Kd.V_far (p := ⟨gb124, 1, none⟩) (Kd.V_far (p := ⟨gb124, 0, none⟩) (Kd.V_mono HO_4.out (fun k_ hk => (⟨hk, hk.2⟩ : _ ∧ k_ ≠ gb124))) (fun _ hk => hk.2) (.int .i64 ((rd_T50 l0 x9_1).f0))) (fun _ hk => hk.2) (.int .i64 ((rd_T50 l0 x9_1).f1))) (fun _ hk => hk.2) (.int .i64 ((rd_T50 l0 x9_1).f2))) (fun _ hk => hk.2) (.slice A123_3 ((rd_T50 l0 x9_1).f3).length c123_3)) (fun _ hk => hk.2) (.string ((rd_T50 l0 x9_1).f4))) (fun _ hk => hk.2) (.int .i64 ((rd_T50 l0 x9_1).f5))) (fun _ hk => hk.1.1)⟩, ⟨by repeat (first | (with_reducible first | exact HB.out | apply below_alloc | apply pw_below_drewN | apply below_drew1 | refine below_set ?_ GE124.out) | exact HB.out)⟩⟩
          · rw [if_neg c5] at H
            exact absurd H (by simp)
        · rw [if_neg c4] at H
          exact absurd H (by simp)
      · rw [if_neg c3] at H
        have c3b0 : decide (x9_1 < (l0.length : Int)) = false := decide_eq_false c3
        clear c3
        obtain rfl := Option.some.inj H
        go_wp2
        go_ret
        exact ⟨_, by first | rfl | (simp [errW_none, errW_some] <;> rfl) | (simp [*, errW_none, errW_some] <;> rfl), by (with_reducible repeat (first | apply Kd.V_alloc | apply Kd.V_drewN | apply Kd.V_drew)); exact HO_4.out, by repeat (first | (with_reducible first | exact HB.out | apply below_alloc | apply pw_below_drewN | apply below_drew1) | exact HB.out)⟩

end Go.Proofs.Ytacdocchcfbgcaa.Q
