-- printed by wip/mp.py (the kit's print, with given functions); Lean checks it
import Derived.Test.YtacdocchcfbgcaaEx0
import Derived.Test.YtacdocchcfbgcaaEx8
namespace Go.Proofs.Ytacdocchcfbgcaa.Q
open Go.RowKit Go.Proofs.YtacdocchcfbgcaaW.PrintWords Go.Proofs.YtacdocchcfbgcaaW.PrintLast Go.Proofs.YtacdocchcfbgcaaW.PrintMore
attribute [local go_sem] max2_int min2_int max_two min_two max_three min_three max_four min_four   -- for this text's walks alone
set_option linter.unusedVariables false
set_option linter.unusedSimpArgs false

/-! ### dolmenref9_write: function 58, given -/
def wrC (l0 : List Int) (n : Nat) : List Int := l0.take (min l0.length n) ++ (List.replicate n (0 : Int)).drop (min l0.length n)
theorem wrC_length (l0 : List Int) (n : Nat) : (wrC l0 n).length = n := by
  unfold wrC
  rw [List.length_append, List.length_take, List.length_drop, List.length_replicate]
  omega
def dolmenref9_write.f (l0 : List Int) (a1_0 : Int) (a1_1 : Int) (a1_2 : Int) (l1_3 : List Int) (a1_4 : ByteArray) (a1_5 : Int) : Option (List Int) :=
  if a1_0 = 2 then (if 0 ≤ a1_2 ∧ a1_2 ≤ 100000 then some (wrC l0 a1_2.toNat) else none)
  else if 0 ≤ a1_2 ∧ 0 < l1_3.length ∧ a1_2.toNat + l1_3.length ≤ 100000 ∧ l0.length ≤ 100000 then
    some ((wrC l0 (max l0.length (a1_2.toNat + l1_3.length))).take a1_2.toNat ++ l1_3 ++ (wrC l0 (max l0.length (a1_2.toNat + l1_3.length))).drop (a1_2.toNat + l1_3.length)) else none
set_option maxHeartbeats 4000000 in
set_option maxRecDepth 100000 in
theorem dolmenref9_write.calls (A0 : Option Addr) (c0 : Nat) (l0 : List Int) (a1_0 : Int) (a1_1 : Int) (a1_2 : Int) (A1_3 : Option Addr) (c1_3 : Nat) (l1_3 : List Int) (a1_4 : ByteArray) (a1_5 : Int) (r : List Int) (w : World) (hr0 : Kd.C (Kd.int .u8) w A0 l0.length l0) (hc0 : l0.length ≤ c0) (hr1_3 : Kd.C (Kd.int .u8) w A1_3 l1_3.length l1_3) (hc1_3 : l1_3.length ≤ c1_3) (h : dolmenref9_write.f l0 a1_0 a1_1 a1_2 l1_3 a1_4 a1_5 = some r) :
    Calls Try.prog 58 #[.slice A0 l0.length c0, .agg #[.int .i64 a1_0, .int .i64 a1_1, .int .i64 a1_2, .slice A1_3 l1_3.length c1_3, .string a1_4, .int .i64 a1_5]] w fun e w' => ∃ v0_ : Value, e = .returned v0_ ∧ Kd.R (Kd.int .u8) 5 w' w.heap.size (fun _ => True) v0_ r ∧ Below w.heap.size w w' := by
  have HR0 := Aside0.mk hr0
  have HC0 := Aside0.mk hc0
  have HR := Aside0.mk hr1_3
  have HC := Aside0.mk hc1_3
  have hml := hr1_3.2.1
  have hm0 := hr0.2.1
  clear hr0 hc0 hr1_3 hc1_3
  unfold dolmenref9_write.f at h
  by_cases k2 : a1_0 = 2
  · subst k2
    rw [if_pos rfl] at h
    split at h
    case isFalse => cases h
    rename_i hc
    obtain ⟨h0, h1⟩ := hc
    obtain ⟨o, rfl⟩ := Int.eq_ofNat_of_zero_le h0
    rw [Int.toNat_natCast] at h
    obtain rfl := Option.some.inj h
    clear h
    go_enter Try.func58, Try.ntmps58
    go_wp2_with (first | ((with_reducible refine gate_dst (N := 12) rfl ?_); (try (refine gate_guard (by rfl) ?_; dsimp only)); (refine Kd.R_make (Kd.int .u8) (w0 := w) w.heap.size 5 ?hg (N := 12) ?hd 30 (.tmp 11) (.tmp 11) rfl (o : Int) rfl rfl Try.underlying30 (.int .u8 0) 1 (by rfl) rfl (by decide) (by decide) 0 (ok := fun _ => True) (okp := fun _ => True) (show Kd.M (Kd.int .u8) _ _ _ 0 [.int .u8 0] from rfl) (fun _ h => h) trivial (by omega) (by rw [Int.toNat_natCast]; omega) ?hB ?hS ?_; (case hd => rfl); (case hg => rfl); (case hB => exact below_alloc (Below.refl _ _) _); (case hS => simp); intro v5 w5 ho hb hg_ hat; rw [Int.toNat_natCast] at ho; have HO := Aside0.mk ho; have HB := Aside0.mk hb; obtain ⟨Ac, cc, eq_⟩ := Kd.R_slice ho; rw [List.length_replicate] at eq_; subst eq_; clear ho hb hg_ hat)) | ((with_reducible refine gate_builtin (b := .copy) (xs := #[.tmp 13, .tmp 14]) rfl ?_); (refine Kd.R_copy (enc := Value.int .u8) (h1 := fun _ => rfl) 0 (w0 := w) w.heap.size rfl (.tmp 13) (.tmp 14) 30 30 5 rfl Try.underlying30 (by rfl) (.slice Ac o cc) (List.replicate o 0) l0 A0 l0.length c0 (fun _ => True) rfl rfl ?cO ?cR ?cB ?cS ?_; (case cO => exact HO.out); (case cR => exact Kd.C_below HR0.out HB.out); (case cB => exact HB.out); (case cS => exact below_size HB.out); intro w6 ho hb hg; rw [List.length_replicate] at ho ⊢; have HO2 := Aside0.mk (show Kd.R (Kd.int .u8) 5 w6 w.heap.size (fun _ => True) (.slice Ac o cc) (wrC l0 o) from ho); have HB2 := Aside0.mk hb; clear ho hb hg HO HB)))
    go_ret
    exact ⟨_, rfl, HO2.out, HB2.out⟩
  · have b2 : (a1_0 == 2) = false := by simpa using k2
    rw [if_neg k2] at h
    split at h
    case isFalse => cases h
    rename_i hc
    obtain ⟨h0, h1, h2, h3⟩ := hc
    obtain ⟨o, rfl⟩ := Int.eq_ofNat_of_zero_le h0
    rw [Int.toNat_natCast] at h h2
    obtain rfl := Option.some.inj h
    clear h k2
    by_cases hle : o + l1_3.length ≤ l0.length
    · rw [Nat.max_eq_left hle]
      have hle' : (o : Int) + (l1_3.length : Int) ≤ (l0.length : Int) := by omega
      go_enter Try.func58, Try.ntmps58
      go_wp2_with (first | ((with_reducible refine gate_dst (N := 26) rfl ?_); (try (refine gate_guard (by rfl) ?_; dsimp only)); (refine Kd.R_make (Kd.int .u8) (w0 := w) w.heap.size 5 ?hg (N := 26) ?hd 30 (.tmp 25) (.tmp 25) rfl ((l0.length : Int)) rfl rfl Try.underlying30 (.int .u8 0) 1 (by rfl) rfl (by decide) (by decide) 0 (ok := fun k_ => w.heap.size < k_) (okp := fun k_ => w.heap.size < k_) (show Kd.M (Kd.int .u8) _ _ _ 0 [.int .u8 0] from rfl) (fun _ h => h) (by show w.heap.size < _; simp) (by omega) (by rw [Int.toNat_natCast]; omega) ?hB ?hS ?_; (case hd => rfl); (case hg => rfl); (case hB => exact below_alloc (Below.refl _ _) _); (case hS => simp); intro v5 w5 ho hb hg_ hat; rw [Int.toNat_natCast] at ho; have HO := Aside0.mk ho; have HB := Aside0.mk hb; obtain ⟨Ac, cc, eq_⟩ := Kd.R_slice ho; rw [List.length_replicate] at eq_; subst eq_; have BK := (hg_.block w.heap.size (by simp) (by simp)).trans (heap_alloc_new w _); have HK5 := Aside0.mk BK; clear ho hb hg_ hat BK)) | ((with_reducible refine gate_builtin (b := .copy) (xs := #[.tmp 27, .tmp 28]) rfl ?_); (refine Kd.R_copy (enc := Value.int .u8) (h1 := fun _ => rfl) 0 (w0 := w) w.heap.size rfl (.tmp 27) (.tmp 28) 30 30 5 rfl Try.underlying30 (by rfl) (.slice Ac l0.length cc) (List.replicate (l0.length) 0) l0 A0 l0.length c0 (fun k_ => w.heap.size < k_) rfl rfl ?cO ?cR ?cB ?cS ?_; (case cO => exact HO.out); (case cR => exact Kd.C_below HR0.out HB.out); (case cB => exact HB.out); (case cS => exact below_size HB.out); intro w6 ho hb hg; rw [List.length_replicate] at ho ⊢; have HO2 := Aside0.mk (show Kd.R (Kd.int .u8) 5 w6 w.heap.size (fun k_ => w.heap.size < k_) (.slice Ac (l0.length) cc) (wrC l0 (l0.length)) from ho); have HB2 := Aside0.mk hb; have BK := (hg.block w.heap.size (Array.getElem?_eq_some_iff.1 HK5.out).1 (fun he => Nat.lt_irrefl _ (HO.out.1 _ he.symm))).trans HK5.out; have HK6 := Aside0.mk BK; have c6_2 := blk_cell BK 2; have c6_3 := blk_cell BK 3; clear ho hb hg HO HB BK)))
      have hcl : (wrC l0 (l0.length)).length = l0.length := wrC_length _ _
      obtain ⟨gb, cb, ecb, hgb, hgl, _⟩ := Kd.R_form HO2.out (by rw [hcl]; omega)
      rw [hcl] at ecb
      obtain ⟨rfl, rfl⟩ : Ac = some ⟨gb, 0, none⟩ ∧ cc = cb := by simpa using ecb
      have hO2 : Kd.R (Kd.int .u8) 5 w6 w.heap.size (fun k_ => w.heap.size < k_) (.slice (some ⟨gb, 0, none⟩) (wrC l0 (l0.length)).length cc) (wrC l0 (l0.length)) := by rw [hcl]; exact HO2.out
      obtain ⟨w7, hcopy, hR7, hg7⟩ := Go.Proofs.Ytacdocchcfbgcaa.HCopy.copy_at (t := 30) (t' := 30) (ty := 3) (c' := cc - o) (c := c1_3) (W := w6.drew) Try.underlying30 (by rfl) (Kd.R_drew hO2) (Kd.C_drew (Kd.C_below HR.out HB2.out)) h1 (by rw [hcl]; omega)
      rw [hcl] at hcopy hR7
      have hcc := (Kd.R_reads' HO2.out).2.1
      have hb1 : (o : Int) ≤ ((l0.length : Nat) : Int) := by omega
      have hb2 : ((l0.length : Nat) : Int) ≤ (cc : Int) := by omega
      have hb3 : ¬ cc = o := by omega
      have HR7 := Aside0.mk hR7
      have HG7 := Aside0.mk hg7
      have hne : w.heap.size < gb := HO2.out.1 gb rfl
      have HNE := Aside0.mk hne
      have BK7 := (hg7.block w.heap.size (Array.getElem?_eq_some_iff.1 HK6.out).1 (by intro he; injection he with he; omega)).trans HK6.out
      have c7_2 := blk_cell BK7 2
      have c7_3 := blk_cell BK7 3
      clear hR7 hg7 hne BK7 hcl hgb hgl ecb hO2 hcc
      go_region_held3 (fun w' => w'.cell? ⟨w.heap.size, 2, none⟩ = some (.int .i64 (o : Int)) ∧ w'.cell? ⟨w.heap.size, 3, none⟩ = some (.slice A1_3 l1_3.length c1_3)) (go_keep) (fail)
      go_wp2
      go_ret
      exact ⟨_, rfl, Kd.R_mono HR7.out (fun _ _ => trivial), (below_drew HB2.out).grown HG7.out (by simpa using below_size HB2.out) (fun q hq => by cases hq; exact Nat.le_of_lt HNE.out)⟩
    · rw [Nat.max_eq_right (by omega)]
      have hle' : (l0.length : Int) < (o : Int) + (l1_3.length : Int) := by omega
      go_enter Try.func58, Try.ntmps58
      go_wp2_with (first | ((with_reducible refine gate_dst (N := 26) rfl ?_); (try (refine gate_guard (by rfl) ?_; dsimp only)); (refine Kd.R_make (Kd.int .u8) (w0 := w) w.heap.size 5 ?hg (N := 26) ?hd 30 (.tmp 25) (.tmp 25) rfl ((o : Int) + (l1_3.length : Int)) rfl rfl Try.underlying30 (.int .u8 0) 1 (by rfl) rfl (by decide) (by decide) 0 (ok := fun k_ => w.heap.size < k_) (okp := fun k_ => w.heap.size < k_) (show Kd.M (Kd.int .u8) _ _ _ 0 [.int .u8 0] from rfl) (fun _ h => h) (by show w.heap.size < _; simp) (by omega) (by rw [show ((o : Int) + (l1_3.length : Int)).toNat = o + l1_3.length by omega]; omega) ?hB ?hS ?_; (case hd => rfl); (case hg => rfl); (case hB => exact below_alloc (Below.refl _ _) _); (case hS => simp); intro v5 w5 ho hb hg_ hat; rw [show ((o : Int) + (l1_3.length : Int)).toNat = o + l1_3.length by omega] at ho; have HO := Aside0.mk ho; have HB := Aside0.mk hb; obtain ⟨Ac, cc, eq_⟩ := Kd.R_slice ho; rw [List.length_replicate] at eq_; subst eq_; have BK := (hg_.block w.heap.size (by simp) (by simp)).trans (heap_alloc_new w _); have HK5 := Aside0.mk BK; clear ho hb hg_ hat BK)) | ((with_reducible refine gate_builtin (b := .copy) (xs := #[.tmp 27, .tmp 28]) rfl ?_); (refine Kd.R_copy (enc := Value.int .u8) (h1 := fun _ => rfl) 0 (w0 := w) w.heap.size rfl (.tmp 27) (.tmp 28) 30 30 5 rfl Try.underlying30 (by rfl) (.slice Ac (o + l1_3.length) cc) (List.replicate ((o + l1_3.length)) 0) l0 A0 l0.length c0 (fun k_ => w.heap.size < k_) rfl rfl ?cO ?cR ?cB ?cS ?_; (case cO => exact HO.out); (case cR => exact Kd.C_below HR0.out HB.out); (case cB => exact HB.out); (case cS => exact below_size HB.out); intro w6 ho hb hg; rw [List.length_replicate] at ho ⊢; have HO2 := Aside0.mk (show Kd.R (Kd.int .u8) 5 w6 w.heap.size (fun k_ => w.heap.size < k_) (.slice Ac ((o + l1_3.length)) cc) (wrC l0 ((o + l1_3.length))) from ho); have HB2 := Aside0.mk hb; have BK := (hg.block w.heap.size (Array.getElem?_eq_some_iff.1 HK5.out).1 (fun he => Nat.lt_irrefl _ (HO.out.1 _ he.symm))).trans HK5.out; have HK6 := Aside0.mk BK; have c6_2 := blk_cell BK 2; have c6_3 := blk_cell BK 3; clear ho hb hg HO HB BK)))
      have hcl : (wrC l0 (o + l1_3.length)).length = o + l1_3.length := wrC_length _ _
      obtain ⟨gb, cb, ecb, hgb, hgl, _⟩ := Kd.R_form HO2.out (by rw [hcl]; omega)
      rw [hcl] at ecb
      obtain ⟨rfl, rfl⟩ : Ac = some ⟨gb, 0, none⟩ ∧ cc = cb := by simpa using ecb
      have hO2 : Kd.R (Kd.int .u8) 5 w6 w.heap.size (fun k_ => w.heap.size < k_) (.slice (some ⟨gb, 0, none⟩) (wrC l0 (o + l1_3.length)).length cc) (wrC l0 (o + l1_3.length)) := by rw [hcl]; exact HO2.out
      obtain ⟨w7, hcopy, hR7, hg7⟩ := Go.Proofs.Ytacdocchcfbgcaa.HCopy.copy_at (t := 30) (t' := 30) (ty := 3) (c' := cc - o) (c := c1_3) (W := w6.drew) Try.underlying30 (by rfl) (Kd.R_drew hO2) (Kd.C_drew (Kd.C_below HR.out HB2.out)) h1 (Nat.le_of_eq hcl.symm)
      rw [hcl] at hcopy hR7
      have hcc := (Kd.R_reads' HO2.out).2.1
      rw [show o + l1_3.length - o = l1_3.length by omega] at hcopy
      have hb1 : (o : Int) ≤ ((o + l1_3.length : Nat) : Int) := by omega
      have hb4 : (o : Int) ≤ (o : Int) + (l1_3.length : Int) := by omega
      have hb5 : (o : Int) + (l1_3.length : Int) ≤ (cc : Int) := by omega
      have hb6 : (0 : Int) ≤ (l1_3.length : Int) := by omega
      have hb2 : ((o + l1_3.length : Nat) : Int) ≤ (cc : Int) := by omega
      have hb3 : ¬ cc = o := by omega
      have HR7 := Aside0.mk hR7
      have HG7 := Aside0.mk hg7
      have hne : w.heap.size < gb := HO2.out.1 gb rfl
      have HNE := Aside0.mk hne
      have BK7 := (hg7.block w.heap.size (Array.getElem?_eq_some_iff.1 HK6.out).1 (by intro he; injection he with he; omega)).trans HK6.out
      have c7_2 := blk_cell BK7 2
      have c7_3 := blk_cell BK7 3
      clear hR7 hg7 hne BK7 hcl hgb hgl ecb hO2 hcc
      go_region_held3 (fun w' => w'.cell? ⟨w.heap.size, 2, none⟩ = some (.int .i64 (o : Int)) ∧ w'.cell? ⟨w.heap.size, 3, none⟩ = some (.slice A1_3 l1_3.length c1_3)) (go_keep) (fail)
      go_wp2
      go_ret
      exact ⟨_, rfl, Kd.R_mono HR7.out (fun _ _ => trivial), (below_drew HB2.out).grown HG7.out (by simpa using below_size HB2.out) (fun q hq => by cases hq; exact Nat.le_of_lt HNE.out)⟩

/-! ### dolmenref9_File: function 42 -/
def dolmenref9_File.l0 : Nat → List (S32) → Int → List Int → Int → Option (List Int)
  | 0, _, _, _, _ => none
  | k + 1, x0, x1, x5, x6 => if x6 < (x0.length : Int) then (if 0 ≤ x6 then (if ((rd_T32 x0 x6).f1) ≤ x1 then ((dolmenref9_CheckEntry.f k ((rd_T32 x0 x6).f0) ((rd_T32 x0 x6).f1) ((rd_T32 x0 x6).f2) ((rd_T32 x0 x6).f3) ((rd_T32 x0 x6).f4) ((rd_T32 x0 x6).f5)).bind fun t191 => (if t191 = 0 then (if ((rd_T32 x0 x6).f0) ≤ 2 then ((dolmenref9_write.f x5 ((rd_T32 x0 x6).f0) ((rd_T32 x0 x6).f1) ((rd_T32 x0 x6).f2) ((rd_T32 x0 x6).f3) ((rd_T32 x0 x6).f4) ((rd_T32 x0 x6).f5)).bind fun t194 => (dolmenref9_File.l0 k x0 x1 t194 (wrap64 (x6 + 1)))) else (dolmenref9_File.l0 k x0 x1 x5 (wrap64 (x6 + 1)))) else (dolmenref9_File.l0 k x0 x1 x5 (wrap64 (x6 + 1))))) else (dolmenref9_File.l0 k x0 x1 x5 (wrap64 (x6 + 1)))) else (none)) else (some x5)
def dolmenref9_File.f (k : Nat) (l0 : List (S32)) (a1 : Int) : Option (List Int) := dolmenref9_File.l0 k l0 a1 ([] : List Int) 0
theorem dolmenref9_File.mono_l : ∀ k, (∀ y0 y1 y2 y3, LeO (dolmenref9_File.l0 k y0 y1 y2 y3) (dolmenref9_File.l0 (k + 1) y0 y1 y2 y3))
  | 0 => fun _ _ _ _ r h => by simp [dolmenref9_File.l0] at h
  | k + 1 => by
    have ih0 := dolmenref9_File.mono_l k
    · intro y0 y1 y2 y3
      unfold dolmenref9_File.l0
      repeat' first
      | (with_reducible exact ih0 _ _ _ _)
      | (with_reducible exact dolmenref9_CheckEntry.mono _ _ _ _ _ _ _)
      | (with_reducible exact LeO.refl _)
      | (with_reducible exact LeO.none _)
      | (with_reducible refine LeO.ite ?_ ?_)
      | (with_reducible refine LeO.bind ?_ (fun _ => ?_))
      | exact ih0 _ _ _ _
      | exact dolmenref9_CheckEntry.mono _ _ _ _ _ _ _
      | exact LeO.none _
      | refine LeO.ite ?_ ?_
      | refine LeO.bind ?_ (fun _ => ?_)
theorem dolmenref9_File.mono : ∀ a0 a1 k, LeO (dolmenref9_File.f k a0 a1) (dolmenref9_File.f (k + 1) a0 a1) := by
  intro a0 a1 k
  have ih0 := dolmenref9_File.mono_l k
  unfold dolmenref9_File.f
  repeat' first
      | (with_reducible exact ih0 _ _ _ _)
      | (with_reducible exact dolmenref9_CheckEntry.mono _ _ _ _ _ _ _)
      | (with_reducible exact LeO.refl _)
      | (with_reducible exact LeO.none _)
      | (with_reducible refine LeO.ite ?_ ?_)
      | (with_reducible refine LeO.bind ?_ (fun _ => ?_))
      | exact ih0 _ _ _ _
      | exact dolmenref9_CheckEntry.mono _ _ _ _ _ _ _
      | exact LeO.none _
      | refine LeO.ite ?_ ?_
      | refine LeO.bind ?_ (fun _ => ?_)
set_option maxHeartbeats 8000000 in
set_option maxRecDepth 100000 in
theorem dolmenref9_File.calls (k : Nat) (A0 : Option Addr) (c0 : Nat) (l0 : List (S32)) (a1 : Int) (r : List Int) (w : World) (hr0 : Kd.C k32 w A0 l0.length l0) (hc0 : l0.length ≤ c0) (h : dolmenref9_File.f k l0 a1 = some r) :
    Calls Try.prog 42 #[.slice A0 l0.length c0, .int .i64 a1] w fun e w' => ∃ v0_ : Value, e = .returned (v0_) ∧ Kd.R (Kd.int .u8) 5 w' w.heap.size (fun _ => True) v0_ r ∧ Below w.heap.size w w' := by
  have hu32 := Try.underlying32
  have HR0 := Aside0.mk hr0
  have HC0 := Aside0.mk hc0
  clear hr0 hc0
  have HB := Aside0.mk (Below.refl w.heap.size w)
  have H : (dolmenref9_File.l0 k l0 a1 ([] : List Int) 0) = some r := h
  clear h
  have H' := Aside0.mk H
  clear H
  go_enter Try.func42, Try.ntmps42
  go_wp2
  go_loopg [5, 6] k (fun kq v5 v6 w' => ∃ (x5_1 : List Int) (x6_1 : Int), v6 = .int .i64 x6_1 ∧ Aside0 (dolmenref9_File.l0 kq l0 a1 x5_1 x6_1 = some r) ∧ Aside0 (kq ≤ k) ∧ Aside0 (Kd.R (Kd.int .u8) 5 w' w.heap.size (fun _ => True) v5 x5_1) ∧ Aside0 (Below w.heap.size w w'))
  case atStart => exact ⟨(([] : List Int)), (0), (by first | rfl | (simp; done) | (simp [*]; done)), H', ⟨Nat.le_refl _⟩, ⟨by first | exact Kd.R_nil _ _ _ _ _ | exact Kd.N_nil _ _ _ _ _ | exact Kd.V_nil _ _ _ _ _ | exact Kd.Q_nil _ _ _ _ _ | exact Kd.S_nil _ _ _ _ _⟩, ⟨by repeat (first | (with_reducible first | exact HB.out | apply below_alloc | apply pw_below_drewN | apply below_drew1) | exact HB.out)⟩⟩
  case round =>
    clear H'
    (try clear p2)
    obtain ⟨x5_1, x6_1, rfl, HA, HK1, HO_5, HB⟩ := hrel
    cases gk with
    | zero => exact absurd HA.out (by simp [dolmenref9_File.l0])
    | succ k1 =>
      have H := HA.out
      clear HA
      simp only [dolmenref9_File.l0] at H
      by_cases c3 : x6_1 < (l0.length : Int)
      · rw [if_pos c3] at H
        have c3b0 : decide (x6_1 < (l0.length : Int)) = true := decide_eq_true c3
        clear c3
        by_cases c4 : 0 ≤ x6_1
        · rw [if_pos c4] at H
          have c4b0 : decide (0 ≤ x6_1) = true := decide_eq_true c4
          clear c4
          by_cases c5 : ((rd_T32 l0 x6_1).f1) ≤ a1
          · rw [if_pos c5] at H
            have c5b0 : decide (((rd_T32 l0 x6_1).f1) ≤ a1) = true := decide_eq_true c5
            clear c5
            replace H := Option.bind_eq_some_iff.mp H
            obtain ⟨t191, A60, H⟩ := H
            replace H : (if t191 = 0 then (if ((rd_T32 l0 x6_1).f0) ≤ 2 then ((dolmenref9_write.f x5_1 ((rd_T32 l0 x6_1).f0) ((rd_T32 l0 x6_1).f1) ((rd_T32 l0 x6_1).f2) ((rd_T32 l0 x6_1).f3) ((rd_T32 l0 x6_1).f4) ((rd_T32 l0 x6_1).f5)).bind fun t194 => (dolmenref9_File.l0 k1 l0 a1 t194 (wrap64 (x6_1 + 1)))) else (dolmenref9_File.l0 k1 l0 a1 x5_1 (wrap64 (x6_1 + 1)))) else (dolmenref9_File.l0 k1 l0 a1 x5_1 (wrap64 (x6_1 + 1)))) = some r := H
            have A6 := Aside0.mk A60
            clear A60
            by_cases c7 : t191 = 0
            · rw [if_pos c7] at H
              have c7b0 : (t191 == 0) = true := beq_iff_eq.mpr c7
              have c7b1 : (t191 != 0) = false := bne_eq_false_iff_eq.mpr c7
              clear c7
              by_cases c8 : ((rd_T32 l0 x6_1).f0) ≤ 2
              · rw [if_pos c8] at H
                have c8b0 : decide (((rd_T32 l0 x6_1).f0) ≤ 2) = true := decide_eq_true c8
                clear c8
                replace H := Option.bind_eq_some_iff.mp H
                obtain ⟨t194, A90, H⟩ := H
                replace H : (dolmenref9_File.l0 k1 l0 a1 t194 (wrap64 (x6_1 + 1))) = some r := H
                have A9 := Aside0.mk A90
                clear A90
                have H' := Aside0.mk H
                clear H
                have p189 : 0 ≤ (x6_1 : Int) := of_decide_eq_true (by first | (with_reducible assumption) | assumption)
                have q189 : x6_1 < (l0.length : Int) := of_decide_eq_true (by first | (with_reducible assumption) | assumption)
                obtain ⟨ad189, A189_3, c189_3, e189, hx189_0, hx189_1, hx189_2, hx189_3, hx189_4, hx189_5, hl189_3, hi189_3⟩ := at_T32 HR0.out x6_1 p189 q189
                cases e189
                replace hx189_0 := (HB.out.cell (World.block_lt_of_cell? w _ hx189_0)).trans hx189_0
                replace hx189_1 := (HB.out.cell (World.block_lt_of_cell? w _ hx189_1)).trans hx189_1
                replace hx189_2 := (HB.out.cell (World.block_lt_of_cell? w _ hx189_2)).trans hx189_2
                replace hx189_3 := (HB.out.cell (World.block_lt_of_cell? w _ hx189_3)).trans hx189_3
                replace hx189_4 := (HB.out.cell (World.block_lt_of_cell? w _ hx189_4)).trans hx189_4
                replace hx189_5 := (HB.out.cell (World.block_lt_of_cell? w _ hx189_5)).trans hx189_5
                have HR189_3 := Aside0.mk hi189_3
                have HC189_3 := Aside0.mk hl189_3
                clear hi189_3 hl189_3
                replace p189 := eq_true p189
                replace q189 := eq_true q189
                have p190 : 0 ≤ (x6_1 : Int) := of_decide_eq_true (by first | (with_reducible assumption) | assumption)
                have q190 : x6_1 < (l0.length : Int) := of_decide_eq_true (by first | (with_reducible assumption) | assumption)
                obtain ⟨ad190, A190_3, c190_3, e190, hx190_0, hx190_1, hx190_2, hx190_3, hx190_4, hx190_5, hl190_3, hi190_3⟩ := at_T32 HR0.out x6_1 p190 q190
                obtain rfl : ad189 = ad190 := (by injection e190)
                replace hx190_0 := (HB.out.cell (World.block_lt_of_cell? w _ hx190_0)).trans hx190_0
                replace hx190_1 := (HB.out.cell (World.block_lt_of_cell? w _ hx190_1)).trans hx190_1
                replace hx190_2 := (HB.out.cell (World.block_lt_of_cell? w _ hx190_2)).trans hx190_2
                replace hx190_3 := (HB.out.cell (World.block_lt_of_cell? w _ hx190_3)).trans hx190_3
                replace hx190_4 := (HB.out.cell (World.block_lt_of_cell? w _ hx190_4)).trans hx190_4
                replace hx190_5 := (HB.out.cell (World.block_lt_of_cell? w _ hx190_5)).trans hx190_5
                have HR190_3 := Aside0.mk hi190_3
                have HC190_3 := Aside0.mk hl190_3
                clear hi190_3 hl190_3
                replace p190 := eq_true p190
                replace q190 := eq_true q190
                have ea_ := Option.some.inj (hx189_3.symm.trans hx190_3)
                injection ea_ with ea_ en_ ec_
                subst ea_
                subst ec_
                clear en_
                go_wp2_with (first | (go_at_call 17; (with_reducible refine (dolmenref9_CheckEntry.calls k1 ((rd_T32 l0 x6_1).f0) ((rd_T32 l0 x6_1).f1) ((rd_T32 l0 x6_1).f2) _ _ ((rd_T32 l0 x6_1).f3) ((rd_T32 l0 x6_1).f4) ((rd_T32 l0 x6_1).f5) t191 _ ?side1 ?side2 A6.out).mono ?_); (case side1 => repeat (first | exact (Kd.C_below HR190_3.out HB.out) | (with_reducible refine Kd.C_alloc ?_ _) | (with_reducible refine Kd.C_drewN ?_ _) | (with_reducible refine Kd.C_drew ?_))); (case side2 => exact HC190_3.out); rintro e w10 ⟨rfl, hb⟩; have n0_ := Aside0.mk (Kd.R_below (by (with_reducible repeat (first | apply Kd.R_alloc | apply Kd.R_drewN | apply Kd.R_drew)); exact HO_5.out) hb); have n1_ := Aside0.mk (below_step (by repeat (first | (with_reducible first | exact HB.out | apply below_alloc | apply pw_below_drewN | apply below_drew1) | exact HB.out)) hb); clear HO_5; clear HB; have HO_5 := n0_; have HB := n1_; clear n0_ n1_; (try clear hb); (try clear hb2); (try clear hk); (try clear hi); have p192 : 0 ≤ (x6_1 : Int) := of_decide_eq_true (by first | (with_reducible assumption) | assumption); have q192 : x6_1 < (l0.length : Int) := of_decide_eq_true (by first | (with_reducible assumption) | assumption); obtain ⟨ad192, A192_3, c192_3, e192, hx192_0, hx192_1, hx192_2, hx192_3, hx192_4, hx192_5, hl192_3, hi192_3⟩ := at_T32 HR0.out x6_1 p192 q192; obtain rfl : ad189 = ad192 := (by injection e192); replace hx192_0 := (HB.out.cell (World.block_lt_of_cell? w _ hx192_0)).trans hx192_0; replace hx192_1 := (HB.out.cell (World.block_lt_of_cell? w _ hx192_1)).trans hx192_1; replace hx192_2 := (HB.out.cell (World.block_lt_of_cell? w _ hx192_2)).trans hx192_2; replace hx192_3 := (HB.out.cell (World.block_lt_of_cell? w _ hx192_3)).trans hx192_3; replace hx192_4 := (HB.out.cell (World.block_lt_of_cell? w _ hx192_4)).trans hx192_4; replace hx192_5 := (HB.out.cell (World.block_lt_of_cell? w _ hx192_5)).trans hx192_5; have HR192_3 := Aside0.mk hi192_3; have HC192_3 := Aside0.mk hl192_3; clear hi192_3 hl192_3; replace p192 := eq_true p192; replace q192 := eq_true q192; have p193 : 0 ≤ (x6_1 : Int) := of_decide_eq_true (by first | (with_reducible assumption) | assumption); have q193 : x6_1 < (l0.length : Int) := of_decide_eq_true (by first | (with_reducible assumption) | assumption); obtain ⟨ad193, A193_3, c193_3, e193, hx193_0, hx193_1, hx193_2, hx193_3, hx193_4, hx193_5, hl193_3, hi193_3⟩ := at_T32 HR0.out x6_1 p193 q193; obtain rfl : ad189 = ad193 := (by injection e193); replace hx193_0 := (HB.out.cell (World.block_lt_of_cell? w _ hx193_0)).trans hx193_0; replace hx193_1 := (HB.out.cell (World.block_lt_of_cell? w _ hx193_1)).trans hx193_1; replace hx193_2 := (HB.out.cell (World.block_lt_of_cell? w _ hx193_2)).trans hx193_2; replace hx193_3 := (HB.out.cell (World.block_lt_of_cell? w _ hx193_3)).trans hx193_3; replace hx193_4 := (HB.out.cell (World.block_lt_of_cell? w _ hx193_4)).trans hx193_4; replace hx193_5 := (HB.out.cell (World.block_lt_of_cell? w _ hx193_5)).trans hx193_5; have HR193_3 := Aside0.mk hi193_3; have HC193_3 := Aside0.mk hl193_3; clear hi193_3 hl193_3; replace p193 := eq_true p193; replace q193 := eq_true q193; have ea_ := Option.some.inj (hx192_3.symm.trans hx193_3); injection ea_ with ea_ en_ ec_; subst ea_; subst ec_; clear en_; obtain ⟨Ao11, co11, eo11⟩ := Kd.R_slice HO_5.out; subst eo11) | ((with_reducible refine gate_callee (f := 58) rfl ?_); refine goesL_ (some 41) rfl rfl Try.func58 (by kernel_rfl) rfl #[.slice Ao11 x5_1.length co11, .agg #[.int .i64 ((rd_T32 l0 x6_1).f0), .int .i64 ((rd_T32 l0 x6_1).f1), .int .i64 ((rd_T32 l0 x6_1).f2), .slice A192_3 ((rd_T32 l0 x6_1).f3).length c192_3, .string ((rd_T32 l0 x6_1).f4), .int .i64 ((rd_T32 l0 x6_1).f5)]] rfl (by (try simp only [List.map_toArray, List.map_cons, List.map_nil]); first | done | rfl | (simp only [List.length_drop, List.length_take]; rfl)) ?_; (with_reducible refine (dolmenref9_write.calls _ _ x5_1 ((rd_T32 l0 x6_1).f0) ((rd_T32 l0 x6_1).f1) ((rd_T32 l0 x6_1).f2) _ _ ((rd_T32 l0 x6_1).f3) ((rd_T32 l0 x6_1).f4) ((rd_T32 l0 x6_1).f5) t194 _ ?side1 ?side2 ?side3 ?side4 A9.out).mono ?_); (case side1 => repeat (first | exact (Kd.R_reads' HO_5.out).2.2 | (with_reducible refine Kd.C_alloc ?_ _) | (with_reducible refine Kd.C_drewN ?_ _) | (with_reducible refine Kd.C_drew ?_))); (case side2 => exact (Kd.R_reads' HO_5.out).2.1); (case side3 => repeat (first | exact (Kd.C_below HR193_3.out HB.out) | (with_reducible refine Kd.C_alloc ?_ _) | (with_reducible refine Kd.C_drewN ?_ _) | (with_reducible refine Kd.C_drew ?_))); (case side4 => exact HC193_3.out); rintro e w12 ⟨v195, rfl, ho0, hb⟩; refine ⟨_, rfl, ?_⟩; have n0_ := Aside0.mk (Kd.R_elder' (by (with_reducible repeat (first | apply Kd.R_alloc | apply Kd.R_drewN | apply Kd.R_drew)); exact HO_5.out) (Kd.R_base ho0) hb); have n1_ := Aside0.mk (Kd.R_lower (Kd.R_new' ho0 (Kd.R_lt (by (with_reducible repeat (first | apply Kd.R_alloc | apply Kd.R_drewN | apply Kd.R_drew)); exact HO_5.out))) (below_size (by repeat (first | (with_reducible first | exact HB.out | apply below_alloc | apply pw_below_drewN | apply below_drew1) | exact HB.out)))); have n2_ := Aside0.mk (below_step (by repeat (first | (with_reducible first | exact HB.out | apply below_alloc | apply pw_below_drewN | apply below_drew1) | exact HB.out)) hb); clear HO_5; clear HB; have HO_5 := n0_; have HO196 := n1_; have HB := n2_; clear n0_ n1_ n2_; (try clear hb); (try clear hb2); (try clear hk); (try clear hi); (try clear ho0)))
                go_roundg k1
                case measure => have := HK1.out; omega
                case rel => exact ⟨(t194), (wrap64 (x6_1 + 1)), (by first | rfl | (simp; done) | (simp [*]; done)), H', ⟨by have := HK1.out; omega⟩, ⟨by (with_reducible repeat (first | apply Kd.R_alloc | apply Kd.R_drewN | apply Kd.R_drew)); exact Kd.R_mono HO196.out (fun _ hk => trivial)⟩, ⟨by repeat (first | (with_reducible first | exact HB.out | apply below_alloc | apply pw_below_drewN | apply below_drew1) | exact HB.out)⟩⟩
              · rw [if_neg c8] at H
                have c8b0 : decide (((rd_T32 l0 x6_1).f0) ≤ 2) = false := decide_eq_false c8
                clear c8
                have H' := Aside0.mk H
                clear H
                have p189 : 0 ≤ (x6_1 : Int) := of_decide_eq_true (by first | (with_reducible assumption) | assumption)
                have q189 : x6_1 < (l0.length : Int) := of_decide_eq_true (by first | (with_reducible assumption) | assumption)
                obtain ⟨ad189, A189_3, c189_3, e189, hx189_0, hx189_1, hx189_2, hx189_3, hx189_4, hx189_5, hl189_3, hi189_3⟩ := at_T32 HR0.out x6_1 p189 q189
                cases e189
                replace hx189_0 := (HB.out.cell (World.block_lt_of_cell? w _ hx189_0)).trans hx189_0
                replace hx189_1 := (HB.out.cell (World.block_lt_of_cell? w _ hx189_1)).trans hx189_1
                replace hx189_2 := (HB.out.cell (World.block_lt_of_cell? w _ hx189_2)).trans hx189_2
                replace hx189_3 := (HB.out.cell (World.block_lt_of_cell? w _ hx189_3)).trans hx189_3
                replace hx189_4 := (HB.out.cell (World.block_lt_of_cell? w _ hx189_4)).trans hx189_4
                replace hx189_5 := (HB.out.cell (World.block_lt_of_cell? w _ hx189_5)).trans hx189_5
                have HR189_3 := Aside0.mk hi189_3
                have HC189_3 := Aside0.mk hl189_3
                clear hi189_3 hl189_3
                replace p189 := eq_true p189
                replace q189 := eq_true q189
                have p190 : 0 ≤ (x6_1 : Int) := of_decide_eq_true (by first | (with_reducible assumption) | assumption)
                have q190 : x6_1 < (l0.length : Int) := of_decide_eq_true (by first | (with_reducible assumption) | assumption)
                obtain ⟨ad190, A190_3, c190_3, e190, hx190_0, hx190_1, hx190_2, hx190_3, hx190_4, hx190_5, hl190_3, hi190_3⟩ := at_T32 HR0.out x6_1 p190 q190
                obtain rfl : ad189 = ad190 := (by injection e190)
                replace hx190_0 := (HB.out.cell (World.block_lt_of_cell? w _ hx190_0)).trans hx190_0
                replace hx190_1 := (HB.out.cell (World.block_lt_of_cell? w _ hx190_1)).trans hx190_1
                replace hx190_2 := (HB.out.cell (World.block_lt_of_cell? w _ hx190_2)).trans hx190_2
                replace hx190_3 := (HB.out.cell (World.block_lt_of_cell? w _ hx190_3)).trans hx190_3
                replace hx190_4 := (HB.out.cell (World.block_lt_of_cell? w _ hx190_4)).trans hx190_4
                replace hx190_5 := (HB.out.cell (World.block_lt_of_cell? w _ hx190_5)).trans hx190_5
                have HR190_3 := Aside0.mk hi190_3
                have HC190_3 := Aside0.mk hl190_3
                clear hi190_3 hl190_3
                replace p190 := eq_true p190
                replace q190 := eq_true q190
                have ea_ := Option.some.inj (hx189_3.symm.trans hx190_3)
                injection ea_ with ea_ en_ ec_
                subst ea_
                subst ec_
                clear en_
                go_wp2_with (first | (go_at_call 17; (with_reducible refine (dolmenref9_CheckEntry.calls k1 ((rd_T32 l0 x6_1).f0) ((rd_T32 l0 x6_1).f1) ((rd_T32 l0 x6_1).f2) _ _ ((rd_T32 l0 x6_1).f3) ((rd_T32 l0 x6_1).f4) ((rd_T32 l0 x6_1).f5) t191 _ ?side1 ?side2 A6.out).mono ?_); (case side1 => repeat (first | exact (Kd.C_below HR190_3.out HB.out) | (with_reducible refine Kd.C_alloc ?_ _) | (with_reducible refine Kd.C_drewN ?_ _) | (with_reducible refine Kd.C_drew ?_))); (case side2 => exact HC190_3.out); rintro e w13 ⟨rfl, hb⟩; have n0_ := Aside0.mk (Kd.R_below (by (with_reducible repeat (first | apply Kd.R_alloc | apply Kd.R_drewN | apply Kd.R_drew)); exact HO_5.out) hb); have n1_ := Aside0.mk (below_step (by repeat (first | (with_reducible first | exact HB.out | apply below_alloc | apply pw_below_drewN | apply below_drew1) | exact HB.out)) hb); clear HO_5; clear HB; have HO_5 := n0_; have HB := n1_; clear n0_ n1_; (try clear hb); (try clear hb2); (try clear hk); (try clear hi); have p192 : 0 ≤ (x6_1 : Int) := of_decide_eq_true (by first | (with_reducible assumption) | assumption); have q192 : x6_1 < (l0.length : Int) := of_decide_eq_true (by first | (with_reducible assumption) | assumption); obtain ⟨ad192, A192_3, c192_3, e192, hx192_0, hx192_1, hx192_2, hx192_3, hx192_4, hx192_5, hl192_3, hi192_3⟩ := at_T32 HR0.out x6_1 p192 q192; obtain rfl : ad189 = ad192 := (by injection e192); replace hx192_0 := (HB.out.cell (World.block_lt_of_cell? w _ hx192_0)).trans hx192_0; replace hx192_1 := (HB.out.cell (World.block_lt_of_cell? w _ hx192_1)).trans hx192_1; replace hx192_2 := (HB.out.cell (World.block_lt_of_cell? w _ hx192_2)).trans hx192_2; replace hx192_3 := (HB.out.cell (World.block_lt_of_cell? w _ hx192_3)).trans hx192_3; replace hx192_4 := (HB.out.cell (World.block_lt_of_cell? w _ hx192_4)).trans hx192_4; replace hx192_5 := (HB.out.cell (World.block_lt_of_cell? w _ hx192_5)).trans hx192_5; have HR192_3 := Aside0.mk hi192_3; have HC192_3 := Aside0.mk hl192_3; clear hi192_3 hl192_3; replace p192 := eq_true p192; replace q192 := eq_true q192))
                go_roundg k1
                case measure => have := HK1.out; omega
                case rel => exact ⟨(x5_1), (wrap64 (x6_1 + 1)), (by first | rfl | (simp; done) | (simp [*]; done)), H', ⟨by have := HK1.out; omega⟩, ⟨by (with_reducible repeat (first | apply Kd.R_alloc | apply Kd.R_drewN | apply Kd.R_drew)); exact HO_5.out⟩, ⟨by repeat (first | (with_reducible first | exact HB.out | apply below_alloc | apply pw_below_drewN | apply below_drew1) | exact HB.out)⟩⟩
            · rw [if_neg c7] at H
              have c7b0 : (t191 == 0) = false := beq_eq_false_iff_ne.mpr c7
              have c7b1 : (t191 != 0) = true := bne_iff_ne.mpr c7
              have H' := Aside0.mk H
              clear H
              have p189 : 0 ≤ (x6_1 : Int) := of_decide_eq_true (by first | (with_reducible assumption) | assumption)
              have q189 : x6_1 < (l0.length : Int) := of_decide_eq_true (by first | (with_reducible assumption) | assumption)
              obtain ⟨ad189, A189_3, c189_3, e189, hx189_0, hx189_1, hx189_2, hx189_3, hx189_4, hx189_5, hl189_3, hi189_3⟩ := at_T32 HR0.out x6_1 p189 q189
              cases e189
              replace hx189_0 := (HB.out.cell (World.block_lt_of_cell? w _ hx189_0)).trans hx189_0
              replace hx189_1 := (HB.out.cell (World.block_lt_of_cell? w _ hx189_1)).trans hx189_1
              replace hx189_2 := (HB.out.cell (World.block_lt_of_cell? w _ hx189_2)).trans hx189_2
              replace hx189_3 := (HB.out.cell (World.block_lt_of_cell? w _ hx189_3)).trans hx189_3
              replace hx189_4 := (HB.out.cell (World.block_lt_of_cell? w _ hx189_4)).trans hx189_4
              replace hx189_5 := (HB.out.cell (World.block_lt_of_cell? w _ hx189_5)).trans hx189_5
              have HR189_3 := Aside0.mk hi189_3
              have HC189_3 := Aside0.mk hl189_3
              clear hi189_3 hl189_3
              replace p189 := eq_true p189
              replace q189 := eq_true q189
              have p190 : 0 ≤ (x6_1 : Int) := of_decide_eq_true (by first | (with_reducible assumption) | assumption)
              have q190 : x6_1 < (l0.length : Int) := of_decide_eq_true (by first | (with_reducible assumption) | assumption)
              obtain ⟨ad190, A190_3, c190_3, e190, hx190_0, hx190_1, hx190_2, hx190_3, hx190_4, hx190_5, hl190_3, hi190_3⟩ := at_T32 HR0.out x6_1 p190 q190
              obtain rfl : ad189 = ad190 := (by injection e190)
              replace hx190_0 := (HB.out.cell (World.block_lt_of_cell? w _ hx190_0)).trans hx190_0
              replace hx190_1 := (HB.out.cell (World.block_lt_of_cell? w _ hx190_1)).trans hx190_1
              replace hx190_2 := (HB.out.cell (World.block_lt_of_cell? w _ hx190_2)).trans hx190_2
              replace hx190_3 := (HB.out.cell (World.block_lt_of_cell? w _ hx190_3)).trans hx190_3
              replace hx190_4 := (HB.out.cell (World.block_lt_of_cell? w _ hx190_4)).trans hx190_4
              replace hx190_5 := (HB.out.cell (World.block_lt_of_cell? w _ hx190_5)).trans hx190_5
              have HR190_3 := Aside0.mk hi190_3
              have HC190_3 := Aside0.mk hl190_3
              clear hi190_3 hl190_3
              replace p190 := eq_true p190
              replace q190 := eq_true q190
              have ea_ := Option.some.inj (hx189_3.symm.trans hx190_3)
              injection ea_ with ea_ en_ ec_
              subst ea_
              subst ec_
              clear en_
              go_wp2_with (first | (go_at_call 17; (with_reducible refine (dolmenref9_CheckEntry.calls k1 ((rd_T32 l0 x6_1).f0) ((rd_T32 l0 x6_1).f1) ((rd_T32 l0 x6_1).f2) _ _ ((rd_T32 l0 x6_1).f3) ((rd_T32 l0 x6_1).f4) ((rd_T32 l0 x6_1).f5) t191 _ ?side1 ?side2 A6.out).mono ?_); (case side1 => repeat (first | exact (Kd.C_below HR190_3.out HB.out) | (with_reducible refine Kd.C_alloc ?_ _) | (with_reducible refine Kd.C_drewN ?_ _) | (with_reducible refine Kd.C_drew ?_))); (case side2 => exact HC190_3.out); rintro e w14 ⟨rfl, hb⟩; have n0_ := Aside0.mk (Kd.R_below (by (with_reducible repeat (first | apply Kd.R_alloc | apply Kd.R_drewN | apply Kd.R_drew)); exact HO_5.out) hb); have n1_ := Aside0.mk (below_step (by repeat (first | (with_reducible first | exact HB.out | apply below_alloc | apply pw_below_drewN | apply below_drew1) | exact HB.out)) hb); clear HO_5; clear HB; have HO_5 := n0_; have HB := n1_; clear n0_ n1_; (try clear hb); (try clear hb2); (try clear hk); (try clear hi)))
              go_roundg k1
              case measure => have := HK1.out; omega
              case rel => exact ⟨(x5_1), (wrap64 (x6_1 + 1)), (by first | rfl | (simp; done) | (simp [*]; done)), H', ⟨by have := HK1.out; omega⟩, ⟨by (with_reducible repeat (first | apply Kd.R_alloc | apply Kd.R_drewN | apply Kd.R_drew)); exact HO_5.out⟩, ⟨by repeat (first | (with_reducible first | exact HB.out | apply below_alloc | apply pw_below_drewN | apply below_drew1) | exact HB.out)⟩⟩
          · rw [if_neg c5] at H
            have c5b0 : decide (((rd_T32 l0 x6_1).f1) ≤ a1) = false := decide_eq_false c5
            clear c5
            have H' := Aside0.mk H
            clear H
            have p189 : 0 ≤ (x6_1 : Int) := of_decide_eq_true (by first | (with_reducible assumption) | assumption)
            have q189 : x6_1 < (l0.length : Int) := of_decide_eq_true (by first | (with_reducible assumption) | assumption)
            obtain ⟨ad189, A189_3, c189_3, e189, hx189_0, hx189_1, hx189_2, hx189_3, hx189_4, hx189_5, hl189_3, hi189_3⟩ := at_T32 HR0.out x6_1 p189 q189
            cases e189
            replace hx189_0 := (HB.out.cell (World.block_lt_of_cell? w _ hx189_0)).trans hx189_0
            replace hx189_1 := (HB.out.cell (World.block_lt_of_cell? w _ hx189_1)).trans hx189_1
            replace hx189_2 := (HB.out.cell (World.block_lt_of_cell? w _ hx189_2)).trans hx189_2
            replace hx189_3 := (HB.out.cell (World.block_lt_of_cell? w _ hx189_3)).trans hx189_3
            replace hx189_4 := (HB.out.cell (World.block_lt_of_cell? w _ hx189_4)).trans hx189_4
            replace hx189_5 := (HB.out.cell (World.block_lt_of_cell? w _ hx189_5)).trans hx189_5
            have HR189_3 := Aside0.mk hi189_3
            have HC189_3 := Aside0.mk hl189_3
            clear hi189_3 hl189_3
            replace p189 := eq_true p189
            replace q189 := eq_true q189
            go_wp2
            go_roundg k1
            case measure => have := HK1.out; omega
            case rel => exact ⟨(x5_1), (wrap64 (x6_1 + 1)), (by first | rfl | (simp; done) | (simp [*]; done)), H', ⟨by have := HK1.out; omega⟩, ⟨by (with_reducible repeat (first | apply Kd.R_alloc | apply Kd.R_drewN | apply Kd.R_drew)); exact HO_5.out⟩, ⟨by repeat (first | (with_reducible first | exact HB.out | apply below_alloc | apply pw_below_drewN | apply below_drew1) | exact HB.out)⟩⟩
        · rw [if_neg c4] at H
          exact absurd H (by simp)
      · rw [if_neg c3] at H
        have c3b0 : decide (x6_1 < (l0.length : Int)) = false := decide_eq_false c3
        clear c3
        obtain rfl := Option.some.inj H
        go_wp2
        go_ret
        exact ⟨_, by first | rfl | (simp [errW_none, errW_some] <;> rfl) | (simp [*, errW_none, errW_some] <;> rfl), by (with_reducible repeat (first | apply Kd.R_alloc | apply Kd.R_drewN | apply Kd.R_drew)); exact HO_5.out, by repeat (first | (with_reducible first | exact HB.out | apply below_alloc | apply pw_below_drewN | apply below_drew1) | exact HB.out)⟩

/-! ### dolmenref9_Sizes: function 43 -/
def dolmenref9_Sizes.l0 : Nat → List (S32) → List Int → Int → Int → Option (List Int)
  | 0, _, _, _, _ => none
  | k + 1, x0, x3, x6, x7 => if x7 < x6 then (if 0 ≤ (wrap64 (x7 + 1)) then (if (wrap64 (x7 + 1)) ≤ (x0.length : Int) then ((dolmenref9_File.f k (x0.take ((wrap64 (x7 + 1)) : Int).toNat) 1099511627776).bind fun t201 => (if x3.length < 17592186044416 then (dolmenref9_Sizes.l0 k x0 (x3 ++ [(t201.length : Int)]) x6 (wrap64 (x7 + 1))) else (none))) else (none)) else (none)) else (some x3)
def dolmenref9_Sizes.f (k : Nat) (l0 : List (S32)) : Option (List Int) := dolmenref9_Sizes.l0 k l0 ([] : List Int) (l0.length : Int) 0
theorem dolmenref9_Sizes.mono_l : ∀ k, (∀ y0 y1 y2 y3, LeO (dolmenref9_Sizes.l0 k y0 y1 y2 y3) (dolmenref9_Sizes.l0 (k + 1) y0 y1 y2 y3))
  | 0 => fun _ _ _ _ r h => by simp [dolmenref9_Sizes.l0] at h
  | k + 1 => by
    have ih0 := dolmenref9_Sizes.mono_l k
    · intro y0 y1 y2 y3
      unfold dolmenref9_Sizes.l0
      repeat' first
      | (with_reducible exact ih0 _ _ _ _)
      | (with_reducible exact dolmenref9_File.mono _ _ _)
      | (with_reducible exact LeO.refl _)
      | (with_reducible exact LeO.none _)
      | (with_reducible refine LeO.ite ?_ ?_)
      | (with_reducible refine LeO.bind ?_ (fun _ => ?_))
      | exact ih0 _ _ _ _
      | exact dolmenref9_File.mono _ _ _
      | exact LeO.none _
      | refine LeO.ite ?_ ?_
      | refine LeO.bind ?_ (fun _ => ?_)
theorem dolmenref9_Sizes.mono : ∀ a0 k, LeO (dolmenref9_Sizes.f k a0) (dolmenref9_Sizes.f (k + 1) a0) := by
  intro a0 k
  have ih0 := dolmenref9_Sizes.mono_l k
  unfold dolmenref9_Sizes.f
  repeat' first
      | (with_reducible exact ih0 _ _ _ _)
      | (with_reducible exact dolmenref9_File.mono _ _ _)
      | (with_reducible exact LeO.refl _)
      | (with_reducible exact LeO.none _)
      | (with_reducible refine LeO.ite ?_ ?_)
      | (with_reducible refine LeO.bind ?_ (fun _ => ?_))
      | exact ih0 _ _ _ _
      | exact dolmenref9_File.mono _ _ _
      | exact LeO.none _
      | refine LeO.ite ?_ ?_
      | refine LeO.bind ?_ (fun _ => ?_)
set_option maxHeartbeats 8000000 in
set_option maxRecDepth 100000 in
theorem dolmenref9_Sizes.calls (k : Nat) (A0 : Option Addr) (c0 : Nat) (l0 : List (S32)) (r : List Int) (w : World) (hr0 : Kd.C k32 w A0 l0.length l0) (hc0 : l0.length ≤ c0) (h : dolmenref9_Sizes.f k l0 = some r) :
    Calls Try.prog 43 #[.slice A0 l0.length c0] w fun e w' => ∃ v0_ : Value, e = .returned (v0_) ∧ Kd.R (Kd.int .i64) 3 w' w.heap.size (fun _ => True) v0_ r ∧ Below w.heap.size w w' := by
  have HR0 := Aside0.mk hr0
  have HC0 := Aside0.mk hc0
  clear hr0 hc0
  have HB := Aside0.mk (Below.refl w.heap.size w)
  have H : (dolmenref9_Sizes.l0 k l0 ([] : List Int) (l0.length : Int) 0) = some r := h
  clear h
  have H' := Aside0.mk H
  clear H
  go_enter Try.func43, Try.ntmps43
  go_wp2
  go_loopg [3, 7] k (fun kq v3 v7 w' => ∃ (x3_1 : List Int) (x7_1 : Int), v7 = .int .i64 x7_1 ∧ Aside0 (dolmenref9_Sizes.l0 kq l0 x3_1 (l0.length : Int) x7_1 = some r) ∧ Aside0 (kq ≤ k) ∧ Aside0 (Kd.R (Kd.int .i64) 3 w' w.heap.size (fun _ => True) v3 x3_1) ∧ Aside0 (Below w.heap.size w w'))
  case atStart => exact ⟨(([] : List Int)), (0), (by first | rfl | (simp; done) | (simp [*]; done)), H', ⟨Nat.le_refl _⟩, ⟨by first | exact Kd.R_nil _ _ _ _ _ | exact Kd.N_nil _ _ _ _ _ | exact Kd.V_nil _ _ _ _ _ | exact Kd.Q_nil _ _ _ _ _ | exact Kd.S_nil _ _ _ _ _⟩, ⟨by repeat (first | (with_reducible first | exact HB.out | apply below_alloc | apply pw_below_drewN | apply below_drew1) | exact HB.out)⟩⟩
  case round =>
    clear H'
    obtain ⟨x3_1, x7_1, rfl, HA, HK1, HO_3, HB⟩ := hrel
    cases gk with
    | zero => exact absurd HA.out (by simp [dolmenref9_Sizes.l0])
    | succ k1 =>
      have H := HA.out
      clear HA
      simp only [dolmenref9_Sizes.l0] at H
      by_cases c2 : x7_1 < (l0.length : Int)
      · rw [if_pos c2] at H
        have c2b0 : decide (x7_1 < (l0.length : Int)) = true := decide_eq_true c2
        clear c2
        obtain ⟨ji3, hji3⟩ : ∃ j_ : Int, (wrap64 (x7_1 + 1)) = j_ := ⟨_, rfl⟩
        replace H : (if 0 ≤ (ji3) then (if (ji3) ≤ (l0.length : Int) then ((dolmenref9_File.f k1 (l0.take ((ji3) : Int).toNat) 1099511627776).bind fun t201 => (if x3_1.length < 17592186044416 then (dolmenref9_Sizes.l0 k1 l0 (x3_1 ++ [(t201.length : Int)]) (l0.length : Int) ji3) else (none))) else (none)) else (none)) = some r := by first | (rw [hji3] at H; exact H) | (simp only [hji3] at H ⊢; exact H)
        have hji3w : (IntKind.i64.wrap (x7_1 + 1)) = ji3 := (i64_w _).trans hji3
        by_cases c4 : 0 ≤ (ji3)
        · rw [if_pos c4] at H
          have c4b0 := eq_true c4
          have c4b1 : decide (0 ≤ (ji3)) = true := decide_eq_true c4
          clear c4
          by_cases c5 : (ji3) ≤ (l0.length : Int)
          · rw [if_pos c5] at H
            have c5b0 := eq_true c5
            have c5b1 : decide ((ji3) ≤ (l0.length : Int)) = true := decide_eq_true c5
            clear c5
            obtain ⟨y197, hy197⟩ : ∃ y_ : List (S32), y_ = (l0.take ((ji3) : Int).toNat) := ⟨_, rfl⟩
            replace H : ((dolmenref9_File.f k1 y197 1099511627776).bind fun t201 => (if x3_1.length < 17592186044416 then (dolmenref9_Sizes.l0 k1 l0 (x3_1 ++ [(t201.length : Int)]) (l0.length : Int) ji3) else (none))) = some r := by first | (rw [hy197]; with_reducible exact H) | (have H2_ := (Option.bind_some _ _).symm.trans H; rw [hy197]; with_reducible exact H2_) | (have H2_ := (Option.bind_some _ _).symm.trans H; with_reducible exact H2_) | with_reducible exact H | (rw [hy197]; exact H) | exact H
            have Ny197 := Aside0.mk hy197
            clear hy197
            replace H := Option.bind_eq_some_iff.mp H
            obtain ⟨t201, A60, H⟩ := H
            replace H : (if x3_1.length < 17592186044416 then (dolmenref9_Sizes.l0 k1 l0 (x3_1 ++ [(t201.length : Int)]) (l0.length : Int) ji3) else (none)) = some r := H
            have A6 := Aside0.mk A60
            clear A60
            by_cases c7 : x3_1.length < 17592186044416
            · rw [if_pos c7] at H
              have LMc7 := Aside0.mk c7
              clear c7
              obtain ⟨y204, hy204⟩ : ∃ y_ : List Int, y_ = (x3_1 ++ [(t201.length : Int)]) := ⟨_, rfl⟩
              replace H : (dolmenref9_Sizes.l0 k1 l0 y204 (l0.length : Int) ji3) = some r := by first | (rw [hy204]; with_reducible exact H) | (have H2_ := (Option.bind_some _ _).symm.trans H; rw [hy204]; with_reducible exact H2_) | (have H2_ := (Option.bind_some _ _).symm.trans H; with_reducible exact H2_) | with_reducible exact H | (rw [hy204]; exact H) | exact H
              have Ny204 := Aside0.mk hy204
              clear hy204
              have H' := Aside0.mk H
              clear H
              have q8 : ((ji3) : Int) ≤ ((l0.length : Int) : Int) := of_decide_eq_true (by first | (with_reducible assumption) | assumption)
              obtain ⟨i08, hi08, _, hsz8, _⟩ := info_parts info32
              have hroom8 : l0.length ≤ c0 := HC0.out
              have hC8 : Kd.C k32 _ A0 l0.length l0 := HR0.out
              have hcut8 := cut_to (P := Try.prog) 22 32 .i64 Try.underlying22 hi08 A0 l0.length c0 (ji3) (of_decide_eq_true (by first | (with_reducible assumption) | assumption)) q8 hroom8
              have hr8 := Kd.C_take (m := ((ji3) : Int).toNat) hC8 (by omega)
              have hy8 : y197.length = ((ji3) : Int).toNat := (by rw [Ny197.out, List.length_take]; omega)
              rw [← Ny197.out] at hr8
              rw [← hy8] at hcut8
              have HR200 := Aside0.mk hr8
              have HC200 := Aside0.mk (show y197.length ≤ c0 from by omega)
              clear hr8 hC8 hroom8 hi08 hsz8
              have KY8 := Aside0.mk hy8
              clear hy8
              replace q8 := eq_true q8
              go_wp2_with (first | ((with_reducible refine gate_callee (f := 42) rfl ?_); refine goesL_ (some 15) rfl rfl Try.func42 (by kernel_rfl) rfl #[.slice A0 y197.length c0, .int .i64 1099511627776] rfl (by (try simp only [List.map_toArray, List.map_cons, List.map_nil]); first | done | rfl | (simp only [List.length_drop, List.length_take]; rfl)) ?_; (with_reducible refine (dolmenref9_File.calls k1 _ _ y197 1099511627776 t201 _ ?side1 ?side2 A6.out).mono ?_); (case side1 => repeat (first | exact (Kd.C_below HR200.out HB.out) | (with_reducible refine Kd.C_alloc ?_ _) | (with_reducible refine Kd.C_drewN ?_ _) | (with_reducible refine Kd.C_drew ?_))); (case side2 => exact HC200.out); rintro e w9 ⟨v202, rfl, ho0, hb⟩; refine ⟨_, rfl, ?_⟩; have n0_ := Aside0.mk (Kd.R_below (by (with_reducible repeat (first | apply Kd.R_alloc | apply Kd.R_drewN | apply Kd.R_drew)); exact HO_3.out) hb); have n1_ := Aside0.mk (Kd.R_lower ho0 (below_size (by repeat (first | (with_reducible first | exact HB.out | apply below_alloc | apply pw_below_drewN | apply below_drew1) | exact HB.out)))); have n2_ := Aside0.mk (below_step (by repeat (first | (with_reducible first | exact HB.out | apply below_alloc | apply pw_below_drewN | apply below_drew1) | exact HB.out)) hb); clear HO_3; clear HB; have HO_3 := n0_; have HO203 := n1_; have HB := n2_; clear n0_ n1_ n2_; (try clear hb); (try clear hb2); (try clear hk); (try clear hi); (try clear ho0); obtain ⟨Ao10, co10, eo10⟩ := Kd.R_slice HO203.out; subst eo10) | ((with_reducible refine gate_builtin (b := .append) (xs := #[.tmp 10, .tmp 17]) rfl ?_); at_builtin; refine Kd.R_append (Kd.int .i64) (w0 := w) w.heap.size rfl (.tmp 10) (.tmp 17) 25 3 (.int .i64 0) 8 rfl Try.underlying25 info3 rfl (by decide) (by omega) u3 x3_1 (t201.length : Int) [.int .i64 (t201.length : Int)] (fun _ => True) (fun _ => False) rfl rfl ?aP (fun _ hk => hk.elim) ?aF ?aO ?aB ?aS ?aL ?_; (case aP => exact rfl); (case aB => exact (by repeat (first | (with_reducible first | exact HB.out | apply below_alloc | apply pw_below_drewN | apply below_drew1) | exact HB.out))); (case aF => exact (fun _ _ => trivial)); (case aO => exact (by (with_reducible repeat (first | apply Kd.R_alloc | apply Kd.R_drewN | apply Kd.R_drew)); exact HO_3.out)); (case aS => exact (below_size (by repeat (first | (with_reducible first | exact HB.out | apply below_alloc | apply pw_below_drewN | apply below_drew1) | exact HB.out)))); (case aL => have := LMc7.out; omega); intro v205 w11 ho hb hg hat; rw [← Ny204.out] at ho; have n0_ := Aside0.mk (Kd.R_over' (by (with_reducible repeat (first | apply Kd.R_alloc | apply Kd.R_drewN | apply Kd.R_drew)); exact HO203.out) (Kd.R_typed (by (with_reducible repeat (first | apply Kd.R_alloc | apply Kd.R_drewN | apply Kd.R_drew)); exact HO_3.out)) (by decide) hg); have n1_ := Aside0.mk (hb); have n2_ := Aside0.mk (ho); clear HO203; clear HB; clear HO_3; have HO203 := n0_; have HB := n1_; have HO206 := n2_; clear n0_ n1_ n2_; clear ho hb hg hat))
              go_roundg k1
              case measure => have := HK1.out; omega
              case rel => exact ⟨(y204), (ji3), (by first | rfl | (simp; done) | (simp only [← hji3] <;> (first | rfl | simp)) | (simp [*]; done)), H', ⟨by have := HK1.out; omega⟩, ⟨by (with_reducible repeat (first | apply Kd.R_alloc | apply Kd.R_drewN | apply Kd.R_drew)); exact HO206.out⟩, ⟨by repeat (first | (with_reducible first | exact HB.out | apply below_alloc | apply pw_below_drewN | apply below_drew1) | exact HB.out)⟩⟩
            · rw [if_neg c7] at H
              exact absurd H (by simp)
          · rw [if_neg c5] at H
            exact absurd H (by simp)
        · rw [if_neg c4] at H
          exact absurd H (by simp)
      · rw [if_neg c2] at H
        have c2b0 : decide (x7_1 < (l0.length : Int)) = false := decide_eq_false c2
        clear c2
        obtain rfl := Option.some.inj H
        go_wp2
        go_ret
        exact ⟨_, by first | rfl | (simp [errW_none, errW_some] <;> rfl) | (simp [*, errW_none, errW_some] <;> rfl), by (with_reducible repeat (first | apply Kd.R_alloc | apply Kd.R_drewN | apply Kd.R_drew)); exact HO_3.out, by repeat (first | (with_reducible first | exact HB.out | apply below_alloc | apply pw_below_drewN | apply below_drew1) | exact HB.out)⟩

end Go.Proofs.Ytacdocchcfbgcaa.Q
