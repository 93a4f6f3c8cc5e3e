-- printed by wip/mp.py (the kit's print, with given functions); Lean checks it
import Derived.Test.YtacdocchcfbgcaaQx0
import Derived.Test.YtacdocchcfbgcaaQx2
import Derived.Test.YtacdocchcfbgcaaQx7
import Derived.Test.YtacdocchcfbgcaaQx10
import Derived.Test.YtacdocchcfbgcaaQx11
import Derived.Test.YtacdocchcfbgcaaQx13
import Derived.Test.YtacdocchcfbgcaaQx14
import Derived.Test.YtacdocchcfbgcaaQx16
namespace Go.Proofs.Ytacdocchcfbgcaa.Q
open Go.RowKit Go.Proofs.YtacdocchcfbgcaaW.PrintWords Go.Proofs.YtacdocchcfbgcaaW.PrintLast Go.Proofs.YtacdocchcfbgcaaW.PrintMore
attribute [local go_sem] max2_int min2_int max_two min_two max_three min_three max_four min_four   -- for this text's walks alone
set_option linter.unusedVariables false
set_option linter.unusedSimpArgs false

/-! ### dolmenlaw14_CleanAsks: function 8 -/
mutual
def dolmenlaw14_CleanAsks.j0 : Nat → List (S32) → List Int → List (S50) → List (S64) → List Int → Int → List (S50) → Int → Bool → Option (Bool)
  | 0, _, _, _, _, _, _, _, _, _ => none
  | k + 1, x0, x1, x5, x6, x8, x10, x12, x15, x77 => if x77 = true then (some false) else (if x15 = 0 then ((dolmenref9_Spans.f k x0).bind fun t215 => ((dolmenref9_NeededEntries.f k x0 x1).bind fun t218 => (if (x6.length : Int) = (t215.length : Int) then ((dolmenref5_Ints.f k x8 t218).bind fun t221 => (if t221 = true then (dolmenlaw14_CleanAsks.j1 k x0 x5 x6 x10 x12 t215 t218 ((x12.length : Int) != (t218.length : Int))) else (dolmenlaw14_CleanAsks.j1 k x0 x5 x6 x10 x12 t215 t218 true))) else (dolmenlaw14_CleanAsks.j1 k x0 x5 x6 x10 x12 t215 t218 true)))) else (if (x6.length : Int) = 0 then (if (x8.length : Int) = 0 then (if x10 = 0 then (if (x12.length : Int) = 0 then ((dolmenlaw14_awake.f).bind fun t214 => (some t214)) else (some false)) else (some false)) else (some false)) else (some false)))
def dolmenlaw14_CleanAsks.j1 : Nat → List (S32) → List (S50) → List (S64) → Int → List (S50) → List (S65) → List Int → Bool → Option (Bool)
  | 0, _, _, _, _, _, _, _, _ => none
  | k + 1, x0, x5, x6, x10, x12, x16, x17, x122 => if x122 = true then (some false) else (dolmenlaw14_CleanAsks.l0 k x0 x5 x6 x10 x12 x16 x17 0)
def dolmenlaw14_CleanAsks.l0 : Nat → List (S32) → List (S50) → List (S64) → Int → List (S50) → List (S65) → List Int → Int → Option (Bool)
  | 0, _, _, _, _, _, _, _, _ => none
  | k + 1, x0, x5, x6, x10, x12, x16, x17, x18 => if x18 < (x6.length : Int) then (if 0 ≤ x18 then (if x18 < (x16.length : Int) then (if ((rd_T64 x6 x18).f0) = ((rd_T65 x16 x18).f0) then (if ((rd_T64 x6 x18).f1) = ((rd_T65 x16 x18).f1) then (dolmenlaw14_CleanAsks.l0 k x0 x5 x6 x10 x12 x16 x17 (wrap64 (x18 + 1))) else (some false)) else (some false)) else (none)) else (none)) else (dolmenlaw14_CleanAsks.l1 k x0 x5 x10 x12 x17 0)
def dolmenlaw14_CleanAsks.l1 : Nat → List (S32) → List (S50) → Int → List (S50) → List Int → Int → Option (Bool)
  | 0, _, _, _, _, _, _ => none
  | k + 1, x0, x5, x10, x12, x17, x19 => if x19 < (x17.length : Int) then (if 0 ≤ x19 then (if x19 < (x12.length : Int) then (if 0 ≤ (rd x17 x19) then (if (rd x17 x19) < (x5.length : Int) then ((entry_Same.f k ((rd_T50 x12 x19).f0) ((rd_T50 x12 x19).f1) ((rd_T50 x12 x19).f2) ((rd_T50 x12 x19).f3) ((rd_T50 x12 x19).f4) ((rd_T50 x12 x19).f5) ((rd_T50 x5 (rd x17 x19)).f0) ((rd_T50 x5 (rd x17 x19)).f1) ((rd_T50 x5 (rd x17 x19)).f2) ((rd_T50 x5 (rd x17 x19)).f3) ((rd_T50 x5 (rd x17 x19)).f4) ((rd_T50 x5 (rd x17 x19)).f5)).bind fun t229 => (if t229 = true then (dolmenlaw14_CleanAsks.l1 k x0 x5 x10 x12 x17 (wrap64 (x19 + 1))) else (some false))) else (none)) else (none)) else (none)) else (none)) else (if (x17.length : Int) > 0 then (if 0 < (x17.length : Int) then (if x10 = (rd x17 0) then ((dolmenlaw14_awake.f).bind fun t231 => (some t231)) else (some false)) else (none)) else (if x10 = (x0.length : Int) then ((dolmenlaw14_awake.f).bind fun t232 => (some t232)) else (some false)))
end
def dolmenlaw14_CleanAsks.f (k : Nat) (l0 : List (S32)) (l1 : List Int) : Option (Bool) := (dolmenlaw14_small.f k l0 l1).bind fun t189 => (if t189 = true then ((dolmenlaw14_made.f k l0).bind fun t191 => ((clean_Spans.f k t191).bind fun bt194 => ((clean_Needed.f k t191 l1).bind fun bt198 => ((clean_Fast.f k t191 l1).bind fun bt202 => ((clean_Thorough.f k t191 l1).bind fun bt204 => ((dolmenref9_CheckLog.f k l0).bind fun bt208 => ((dolmenalike_Code.f bt194.2).bind fun t210 => (if t210 = bt208.2 then ((dolmenalike_Code.f bt198.2).bind fun t211 => (if t211 = bt208.2 then ((dolmenalike_Code.f bt202.2).bind fun t212 => (if t212 = bt208.2 then ((dolmenalike_Code.f bt204.2).bind fun t213 => (dolmenlaw14_CleanAsks.j0 k l0 l1 t191 bt194.1 bt198.1 bt202.1 bt204.1 bt208.2 (t213 != bt208.2))) else (dolmenlaw14_CleanAsks.j0 k l0 l1 t191 bt194.1 bt198.1 bt202.1 bt204.1 bt208.2 true))) else (dolmenlaw14_CleanAsks.j0 k l0 l1 t191 bt194.1 bt198.1 bt202.1 bt204.1 bt208.2 true))) else (dolmenlaw14_CleanAsks.j0 k l0 l1 t191 bt194.1 bt198.1 bt202.1 bt204.1 bt208.2 true))))))))) else ((dolmenlaw14_awake.f).bind fun t190 => (some t190)))
theorem dolmenlaw14_CleanAsks.mono_l : ∀ k, (∀ y0 y1 y2 y3 y4 y5 y6 y7 y8, LeO (dolmenlaw14_CleanAsks.j0 k y0 y1 y2 y3 y4 y5 y6 y7 y8) (dolmenlaw14_CleanAsks.j0 (k + 1) y0 y1 y2 y3 y4 y5 y6 y7 y8)) ∧ (∀ y0 y1 y2 y3 y4 y5 y6 y7, LeO (dolmenlaw14_CleanAsks.j1 k y0 y1 y2 y3 y4 y5 y6 y7) (dolmenlaw14_CleanAsks.j1 (k + 1) y0 y1 y2 y3 y4 y5 y6 y7)) ∧ (∀ y0 y1 y2 y3 y4 y5 y6 y7, LeO (dolmenlaw14_CleanAsks.l0 k y0 y1 y2 y3 y4 y5 y6 y7) (dolmenlaw14_CleanAsks.l0 (k + 1) y0 y1 y2 y3 y4 y5 y6 y7)) ∧ (∀ y0 y1 y2 y3 y4 y5, LeO (dolmenlaw14_CleanAsks.l1 k y0 y1 y2 y3 y4 y5) (dolmenlaw14_CleanAsks.l1 (k + 1) y0 y1 y2 y3 y4 y5))
  | 0 => ⟨fun _ _ _ _ _ _ _ _ _ r h => by simp [dolmenlaw14_CleanAsks.j0] at h, fun _ _ _ _ _ _ _ _ r h => by simp [dolmenlaw14_CleanAsks.j1] at h, fun _ _ _ _ _ _ _ _ r h => by simp [dolmenlaw14_CleanAsks.l0] at h, fun _ _ _ _ _ _ r h => by simp [dolmenlaw14_CleanAsks.l1] at h⟩
  | k + 1 => by
    obtain ⟨ih0, ih1, ih2, ih3⟩ := dolmenlaw14_CleanAsks.mono_l k
    refine ⟨?_, ?_, ?_, ?_⟩
    · intro y0 y1 y2 y3 y4 y5 y6 y7 y8
      unfold dolmenlaw14_CleanAsks.j0
      repeat' first
      | (with_reducible exact ih0 _ _ _ _ _ _ _ _ _)
      | (with_reducible exact ih1 _ _ _ _ _ _ _ _)
      | (with_reducible exact ih2 _ _ _ _ _ _ _ _)
      | (with_reducible exact ih3 _ _ _ _ _ _)
      | (with_reducible exact clean_Fast.mono _ _ _)
      | (with_reducible exact clean_Needed.mono _ _ _)
      | (with_reducible exact clean_Spans.mono _ _)
      | (with_reducible exact clean_Thorough.mono _ _ _)
      | (with_reducible exact dolmenlaw14_made.mono _ _)
      | (with_reducible exact dolmenlaw14_small.mono _ _ _)
      | (with_reducible exact dolmenref5_Ints.mono _ _ _)
      | (with_reducible exact dolmenref9_CheckLog.mono _ _)
      | (with_reducible exact dolmenref9_NeededEntries.mono _ _ _)
      | (with_reducible exact dolmenref9_Spans.mono _ _)
      | (with_reducible exact entry_Same.mono _ _ _ _ _ _ _ _ _ _ _ _ _)
      | (with_reducible exact LeO.refl _)
      | (with_reducible exact LeO.none _)
      | (with_reducible refine LeO.ite ?_ ?_)
      | (with_reducible refine LeO.bind ?_ (fun _ => ?_))
      | exact ih0 _ _ _ _ _ _ _ _ _
      | exact ih1 _ _ _ _ _ _ _ _
      | exact ih2 _ _ _ _ _ _ _ _
      | exact ih3 _ _ _ _ _ _
      | exact clean_Fast.mono _ _ _
      | exact clean_Needed.mono _ _ _
      | exact clean_Spans.mono _ _
      | exact clean_Thorough.mono _ _ _
      | exact dolmenlaw14_made.mono _ _
      | exact dolmenlaw14_small.mono _ _ _
      | exact dolmenref5_Ints.mono _ _ _
      | exact dolmenref9_CheckLog.mono _ _
      | exact dolmenref9_NeededEntries.mono _ _ _
      | exact dolmenref9_Spans.mono _ _
      | exact entry_Same.mono _ _ _ _ _ _ _ _ _ _ _ _ _
      | exact LeO.none _
      | refine LeO.ite ?_ ?_
      | refine LeO.bind ?_ (fun _ => ?_)
    · intro y0 y1 y2 y3 y4 y5 y6 y7
      unfold dolmenlaw14_CleanAsks.j1
      repeat' first
      | (with_reducible exact ih0 _ _ _ _ _ _ _ _ _)
      | (with_reducible exact ih1 _ _ _ _ _ _ _ _)
      | (with_reducible exact ih2 _ _ _ _ _ _ _ _)
      | (with_reducible exact ih3 _ _ _ _ _ _)
      | (with_reducible exact clean_Fast.mono _ _ _)
      | (with_reducible exact clean_Needed.mono _ _ _)
      | (with_reducible exact clean_Spans.mono _ _)
      | (with_reducible exact clean_Thorough.mono _ _ _)
      | (with_reducible exact dolmenlaw14_made.mono _ _)
      | (with_reducible exact dolmenlaw14_small.mono _ _ _)
      | (with_reducible exact dolmenref5_Ints.mono _ _ _)
      | (with_reducible exact dolmenref9_CheckLog.mono _ _)
      | (with_reducible exact dolmenref9_NeededEntries.mono _ _ _)
      | (with_reducible exact dolmenref9_Spans.mono _ _)
      | (with_reducible exact entry_Same.mono _ _ _ _ _ _ _ _ _ _ _ _ _)
      | (with_reducible exact LeO.refl _)
      | (with_reducible exact LeO.none _)
      | (with_reducible refine LeO.ite ?_ ?_)
      | (with_reducible refine LeO.bind ?_ (fun _ => ?_))
      | exact ih0 _ _ _ _ _ _ _ _ _
      | exact ih1 _ _ _ _ _ _ _ _
      | exact ih2 _ _ _ _ _ _ _ _
      | exact ih3 _ _ _ _ _ _
      | exact clean_Fast.mono _ _ _
      | exact clean_Needed.mono _ _ _
      | exact clean_Spans.mono _ _
      | exact clean_Thorough.mono _ _ _
      | exact dolmenlaw14_made.mono _ _
      | exact dolmenlaw14_small.mono _ _ _
      | exact dolmenref5_Ints.mono _ _ _
      | exact dolmenref9_CheckLog.mono _ _
      | exact dolmenref9_NeededEntries.mono _ _ _
      | exact dolmenref9_Spans.mono _ _
      | exact entry_Same.mono _ _ _ _ _ _ _ _ _ _ _ _ _
      | exact LeO.none _
      | refine LeO.ite ?_ ?_
      | refine LeO.bind ?_ (fun _ => ?_)
    · intro y0 y1 y2 y3 y4 y5 y6 y7
      unfold dolmenlaw14_CleanAsks.l0
      repeat' first
      | (with_reducible exact ih0 _ _ _ _ _ _ _ _ _)
      | (with_reducible exact ih1 _ _ _ _ _ _ _ _)
      | (with_reducible exact ih2 _ _ _ _ _ _ _ _)
      | (with_reducible exact ih3 _ _ _ _ _ _)
      | (with_reducible exact clean_Fast.mono _ _ _)
      | (with_reducible exact clean_Needed.mono _ _ _)
      | (with_reducible exact clean_Spans.mono _ _)
      | (with_reducible exact clean_Thorough.mono _ _ _)
      | (with_reducible exact dolmenlaw14_made.mono _ _)
      | (with_reducible exact dolmenlaw14_small.mono _ _ _)
      | (with_reducible exact dolmenref5_Ints.mono _ _ _)
      | (with_reducible exact dolmenref9_CheckLog.mono _ _)
      | (with_reducible exact dolmenref9_NeededEntries.mono _ _ _)
      | (with_reducible exact dolmenref9_Spans.mono _ _)
      | (with_reducible exact entry_Same.mono _ _ _ _ _ _ _ _ _ _ _ _ _)
      | (with_reducible exact LeO.refl _)
      | (with_reducible exact LeO.none _)
      | (with_reducible refine LeO.ite ?_ ?_)
      | (with_reducible refine LeO.bind ?_ (fun _ => ?_))
      | exact ih0 _ _ _ _ _ _ _ _ _
      | exact ih1 _ _ _ _ _ _ _ _
      | exact ih2 _ _ _ _ _ _ _ _
      | exact ih3 _ _ _ _ _ _
      | exact clean_Fast.mono _ _ _
      | exact clean_Needed.mono _ _ _
      | exact clean_Spans.mono _ _
      | exact clean_Thorough.mono _ _ _
      | exact dolmenlaw14_made.mono _ _
      | exact dolmenlaw14_small.mono _ _ _
      | exact dolmenref5_Ints.mono _ _ _
      | exact dolmenref9_CheckLog.mono _ _
      | exact dolmenref9_NeededEntries.mono _ _ _
      | exact dolmenref9_Spans.mono _ _
      | exact entry_Same.mono _ _ _ _ _ _ _ _ _ _ _ _ _
      | exact LeO.none _
      | refine LeO.ite ?_ ?_
      | refine LeO.bind ?_ (fun _ => ?_)
    · intro y0 y1 y2 y3 y4 y5
      unfold dolmenlaw14_CleanAsks.l1
      repeat' first
      | (with_reducible exact ih0 _ _ _ _ _ _ _ _ _)
      | (with_reducible exact ih1 _ _ _ _ _ _ _ _)
      | (with_reducible exact ih2 _ _ _ _ _ _ _ _)
      | (with_reducible exact ih3 _ _ _ _ _ _)
      | (with_reducible exact clean_Fast.mono _ _ _)
      | (with_reducible exact clean_Needed.mono _ _ _)
      | (with_reducible exact clean_Spans.mono _ _)
      | (with_reducible exact clean_Thorough.mono _ _ _)
      | (with_reducible exact dolmenlaw14_made.mono _ _)
      | (with_reducible exact dolmenlaw14_small.mono _ _ _)
      | (with_reducible exact dolmenref5_Ints.mono _ _ _)
      | (with_reducible exact dolmenref9_CheckLog.mono _ _)
      | (with_reducible exact dolmenref9_NeededEntries.mono _ _ _)
      | (with_reducible exact dolmenref9_Spans.mono _ _)
      | (with_reducible exact entry_Same.mono _ _ _ _ _ _ _ _ _ _ _ _ _)
      | (with_reducible exact LeO.refl _)
      | (with_reducible exact LeO.none _)
      | (with_reducible refine LeO.ite ?_ ?_)
      | (with_reducible refine LeO.bind ?_ (fun _ => ?_))
      | exact ih0 _ _ _ _ _ _ _ _ _
      | exact ih1 _ _ _ _ _ _ _ _
      | exact ih2 _ _ _ _ _ _ _ _
      | exact ih3 _ _ _ _ _ _
      | exact clean_Fast.mono _ _ _
      | exact clean_Needed.mono _ _ _
      | exact clean_Spans.mono _ _
      | exact clean_Thorough.mono _ _ _
      | exact dolmenlaw14_made.mono _ _
      | exact dolmenlaw14_small.mono _ _ _
      | exact dolmenref5_Ints.mono _ _ _
      | exact dolmenref9_CheckLog.mono _ _
      | exact dolmenref9_NeededEntries.mono _ _ _
      | exact dolmenref9_Spans.mono _ _
      | exact entry_Same.mono _ _ _ _ _ _ _ _ _ _ _ _ _
      | exact LeO.none _
      | refine LeO.ite ?_ ?_
      | refine LeO.bind ?_ (fun _ => ?_)
theorem dolmenlaw14_CleanAsks.mono : ∀ a0 a1 k, LeO (dolmenlaw14_CleanAsks.f k a0 a1) (dolmenlaw14_CleanAsks.f (k + 1) a0 a1) := by
  intro a0 a1 k
  obtain ⟨ih0, ih1, ih2, ih3⟩ := dolmenlaw14_CleanAsks.mono_l k
  unfold dolmenlaw14_CleanAsks.f
  repeat' first
      | (with_reducible exact ih0 _ _ _ _ _ _ _ _ _)
      | (with_reducible exact ih1 _ _ _ _ _ _ _ _)
      | (with_reducible exact ih2 _ _ _ _ _ _ _ _)
      | (with_reducible exact ih3 _ _ _ _ _ _)
      | (with_reducible exact clean_Fast.mono _ _ _)
      | (with_reducible exact clean_Needed.mono _ _ _)
      | (with_reducible exact clean_Spans.mono _ _)
      | (with_reducible exact clean_Thorough.mono _ _ _)
      | (with_reducible exact dolmenlaw14_made.mono _ _)
      | (with_reducible exact dolmenlaw14_small.mono _ _ _)
      | (with_reducible exact dolmenref5_Ints.mono _ _ _)
      | (with_reducible exact dolmenref9_CheckLog.mono _ _)
      | (with_reducible exact dolmenref9_NeededEntries.mono _ _ _)
      | (with_reducible exact dolmenref9_Spans.mono _ _)
      | (with_reducible exact entry_Same.mono _ _ _ _ _ _ _ _ _ _ _ _ _)
      | (with_reducible exact LeO.refl _)
      | (with_reducible exact LeO.none _)
      | (with_reducible refine LeO.ite ?_ ?_)
      | (with_reducible refine LeO.bind ?_ (fun _ => ?_))
      | exact ih0 _ _ _ _ _ _ _ _ _
      | exact ih1 _ _ _ _ _ _ _ _
      | exact ih2 _ _ _ _ _ _ _ _
      | exact ih3 _ _ _ _ _ _
      | exact clean_Fast.mono _ _ _
      | exact clean_Needed.mono _ _ _
      | exact clean_Spans.mono _ _
      | exact clean_Thorough.mono _ _ _
      | exact dolmenlaw14_made.mono _ _
      | exact dolmenlaw14_small.mono _ _ _
      | exact dolmenref5_Ints.mono _ _ _
      | exact dolmenref9_CheckLog.mono _ _
      | exact dolmenref9_NeededEntries.mono _ _ _
      | exact dolmenref9_Spans.mono _ _
      | exact entry_Same.mono _ _ _ _ _ _ _ _ _ _ _ _ _
      | exact LeO.none _
      | refine LeO.ite ?_ ?_
      | refine LeO.bind ?_ (fun _ => ?_)
def dolmenlaw14_CleanAsks.T20 : Bool × List (List Nat × List Nat) := (true, [([], []), ([], []), ([0, 1], [0, 1]), ([2], [2]), ([3], [3]), ([], []), ([], []), ([5, 6], [5, 6]), ([7], [7]), ([8], [8]), ([4, 9], [4, 9]), ([10], [10]), ([11], [11]), ([11], [11]), ([12, 13, 11], [11, 12, 13]), ([14, 11], [11, 14]), ([15, 11], [11, 15]), ([11], [11]), ([11], [11]), ([17, 18, 11], [11, 17, 18]), ([19, 11], [11, 19]), ([20, 11], [11, 20]), ([16, 21, 11], [11, 16, 21]), ([11, 22], [11, 22])])
def dolmenlaw14_CleanAsks.B20 : List Nat := [0, 0, 3, 7, 15, 0, 0, 96, 224, 480, 1023, 2047, 4095, 4095, 16383, 32767, 65535, 4095, 4095, 397311, 921599, 1970175, 4194303, 8388607]
theorem dolmenlaw14_CleanAsks.tab20 : rtab .any (opsOf Try.f8 20) = dolmenlaw14_CleanAsks.T20 := by kernel_rfl
theorem dolmenlaw14_CleanAsks.bits20 : waitsOk dolmenlaw14_CleanAsks.T20.2 dolmenlaw14_CleanAsks.B20 = true := by kernel_rfl
def dolmenlaw14_CleanAsks.T25 : Bool × List (List Nat × List Nat) := (true, [([], []), ([], []), ([0, 1], [0, 1]), ([2], [2]), ([], []), ([], []), ([], []), ([5, 6], [5, 6]), ([7], [7]), ([4, 8], [4, 8]), ([9], [9]), ([3, 10], [3, 10]), ([11], [11])])
def dolmenlaw14_CleanAsks.B25 : List Nat := [0, 0, 3, 7, 0, 0, 0, 96, 224, 496, 1008, 2047, 4095]
theorem dolmenlaw14_CleanAsks.tab25 : rtab .any (opsOf Try.f8 25) = dolmenlaw14_CleanAsks.T25 := by kernel_rfl
theorem dolmenlaw14_CleanAsks.bits25 : waitsOk dolmenlaw14_CleanAsks.T25.2 dolmenlaw14_CleanAsks.B25 = true := by kernel_rfl
set_option maxHeartbeats 8000000 in
set_option maxRecDepth 100000 in
theorem dolmenlaw14_CleanAsks.calls (k : Nat) (A0 : Option Addr) (c0 : Nat) (l0 : List (S32)) (A1 : Option Addr) (c1 : Nat) (l1 : List Int) (r : Bool) (w : World) (hr0 : Kd.C k32 w A0 l0.length l0) (hc0 : l0.length ≤ c0) (hr1 : Kd.C (Kd.int .i64) w A1 l1.length l1) (hc1 : l1.length ≤ c1) (h : dolmenlaw14_CleanAsks.f k l0 l1 = some r) :
    Calls Try.prog 8 #[.slice A0 l0.length c0, .slice A1 l1.length c1] w fun e w' => e = .returned (.bool r) ∧ Below w.heap.size w w' := by
  have hu50 := Try.underlying50
  have HR0 := Aside0.mk hr0
  have HC0 := Aside0.mk hc0
  clear hr0 hc0
  have HR1 := Aside0.mk hr1
  have HC1 := Aside0.mk hc1
  clear hr1 hc1
  have HB := Aside0.mk (Below.refl w.heap.size w)
  have H : ((dolmenlaw14_small.f k l0 l1).bind fun t189 => (if t189 = true then ((dolmenlaw14_made.f k l0).bind fun t191 => ((clean_Spans.f k t191).bind fun bt194 => ((clean_Needed.f k t191 l1).bind fun bt198 => ((clean_Fast.f k t191 l1).bind fun bt202 => ((clean_Thorough.f k t191 l1).bind fun bt204 => ((dolmenref9_CheckLog.f k l0).bind fun bt208 => ((dolmenalike_Code.f bt194.2).bind fun t210 => (if t210 = bt208.2 then ((dolmenalike_Code.f bt198.2).bind fun t211 => (if t211 = bt208.2 then ((dolmenalike_Code.f bt202.2).bind fun t212 => (if t212 = bt208.2 then ((dolmenalike_Code.f bt204.2).bind fun t213 => (dolmenlaw14_CleanAsks.j0 k l0 l1 t191 bt194.1 bt198.1 bt202.1 bt204.1 bt208.2 (t213 != bt208.2))) else (dolmenlaw14_CleanAsks.j0 k l0 l1 t191 bt194.1 bt198.1 bt202.1 bt204.1 bt208.2 true))) else (dolmenlaw14_CleanAsks.j0 k l0 l1 t191 bt194.1 bt198.1 bt202.1 bt204.1 bt208.2 true))) else (dolmenlaw14_CleanAsks.j0 k l0 l1 t191 bt194.1 bt198.1 bt202.1 bt204.1 bt208.2 true))))))))) else ((dolmenlaw14_awake.f).bind fun t190 => (some t190)))) = some r := h
  clear h
  replace H := Option.bind_eq_some_iff.mp H
  obtain ⟨t189, A30, H⟩ := H
  replace H : (if t189 = true then ((dolmenlaw14_made.f k l0).bind fun t191 => ((clean_Spans.f k t191).bind fun bt194 => ((clean_Needed.f k t191 l1).bind fun bt198 => ((clean_Fast.f k t191 l1).bind fun bt202 => ((clean_Thorough.f k t191 l1).bind fun bt204 => ((dolmenref9_CheckLog.f k l0).bind fun bt208 => ((dolmenalike_Code.f bt194.2).bind fun t210 => (if t210 = bt208.2 then ((dolmenalike_Code.f bt198.2).bind fun t211 => (if t211 = bt208.2 then ((dolmenalike_Code.f bt202.2).bind fun t212 => (if t212 = bt208.2 then ((dolmenalike_Code.f bt204.2).bind fun t213 => (dolmenlaw14_CleanAsks.j0 k l0 l1 t191 bt194.1 bt198.1 bt202.1 bt204.1 bt208.2 (t213 != bt208.2))) else (dolmenlaw14_CleanAsks.j0 k l0 l1 t191 bt194.1 bt198.1 bt202.1 bt204.1 bt208.2 true))) else (dolmenlaw14_CleanAsks.j0 k l0 l1 t191 bt194.1 bt198.1 bt202.1 bt204.1 bt208.2 true))) else (dolmenlaw14_CleanAsks.j0 k l0 l1 t191 bt194.1 bt198.1 bt202.1 bt204.1 bt208.2 true))))))))) else ((dolmenlaw14_awake.f).bind fun t190 => (some t190))) = some r := H
  have A3 := Aside0.mk A30
  clear A30
  by_cases c4 : t189 = true
  · subst c4
    have H1 : ((dolmenlaw14_made.f k l0).bind fun t191 => ((clean_Spans.f k t191).bind fun bt194 => ((clean_Needed.f k t191 l1).bind fun bt198 => ((clean_Fast.f k t191 l1).bind fun bt202 => ((clean_Thorough.f k t191 l1).bind fun bt204 => ((dolmenref9_CheckLog.f k l0).bind fun bt208 => ((dolmenalike_Code.f bt194.2).bind fun t210 => (if t210 = bt208.2 then ((dolmenalike_Code.f bt198.2).bind fun t211 => (if t211 = bt208.2 then ((dolmenalike_Code.f bt202.2).bind fun t212 => (if t212 = bt208.2 then ((dolmenalike_Code.f bt204.2).bind fun t213 => (dolmenlaw14_CleanAsks.j0 k l0 l1 t191 bt194.1 bt198.1 bt202.1 bt204.1 bt208.2 (t213 != bt208.2))) else (dolmenlaw14_CleanAsks.j0 k l0 l1 t191 bt194.1 bt198.1 bt202.1 bt204.1 bt208.2 true))) else (dolmenlaw14_CleanAsks.j0 k l0 l1 t191 bt194.1 bt198.1 bt202.1 bt204.1 bt208.2 true))) else (dolmenlaw14_CleanAsks.j0 k l0 l1 t191 bt194.1 bt198.1 bt202.1 bt204.1 bt208.2 true))))))))) = some r := by rw [if_pos rfl] at H; exact H
    clear H
    have H := H1
    clear H1
    replace H := Option.bind_eq_some_iff.mp H
    obtain ⟨t191, A50, H⟩ := H
    replace H : ((clean_Spans.f k t191).bind fun bt194 => ((clean_Needed.f k t191 l1).bind fun bt198 => ((clean_Fast.f k t191 l1).bind fun bt202 => ((clean_Thorough.f k t191 l1).bind fun bt204 => ((dolmenref9_CheckLog.f k l0).bind fun bt208 => ((dolmenalike_Code.f bt194.2).bind fun t210 => (if t210 = bt208.2 then ((dolmenalike_Code.f bt198.2).bind fun t211 => (if t211 = bt208.2 then ((dolmenalike_Code.f bt202.2).bind fun t212 => (if t212 = bt208.2 then ((dolmenalike_Code.f bt204.2).bind fun t213 => (dolmenlaw14_CleanAsks.j0 k l0 l1 t191 bt194.1 bt198.1 bt202.1 bt204.1 bt208.2 (t213 != bt208.2))) else (dolmenlaw14_CleanAsks.j0 k l0 l1 t191 bt194.1 bt198.1 bt202.1 bt204.1 bt208.2 true))) else (dolmenlaw14_CleanAsks.j0 k l0 l1 t191 bt194.1 bt198.1 bt202.1 bt204.1 bt208.2 true))) else (dolmenlaw14_CleanAsks.j0 k l0 l1 t191 bt194.1 bt198.1 bt202.1 bt204.1 bt208.2 true)))))))) = some r := H
    have A5 := Aside0.mk A50
    clear A50
    replace H := Option.bind_eq_some_iff.mp H
    obtain ⟨⟨t194, t195⟩, A60, H⟩ := H
    replace H : ((clean_Needed.f k t191 l1).bind fun bt198 => ((clean_Fast.f k t191 l1).bind fun bt202 => ((clean_Thorough.f k t191 l1).bind fun bt204 => ((dolmenref9_CheckLog.f k l0).bind fun bt208 => ((dolmenalike_Code.f t195).bind fun t210 => (if t210 = bt208.2 then ((dolmenalike_Code.f bt198.2).bind fun t211 => (if t211 = bt208.2 then ((dolmenalike_Code.f bt202.2).bind fun t212 => (if t212 = bt208.2 then ((dolmenalike_Code.f bt204.2).bind fun t213 => (dolmenlaw14_CleanAsks.j0 k l0 l1 t191 t194 bt198.1 bt202.1 bt204.1 bt208.2 (t213 != bt208.2))) else (dolmenlaw14_CleanAsks.j0 k l0 l1 t191 t194 bt198.1 bt202.1 bt204.1 bt208.2 true))) else (dolmenlaw14_CleanAsks.j0 k l0 l1 t191 t194 bt198.1 bt202.1 bt204.1 bt208.2 true))) else (dolmenlaw14_CleanAsks.j0 k l0 l1 t191 t194 bt198.1 bt202.1 bt204.1 bt208.2 true))))))) = some r := H
    have A6 := Aside0.mk A60
    clear A60
    replace H := Option.bind_eq_some_iff.mp H
    obtain ⟨⟨t198, t199⟩, A70, H⟩ := H
    replace H : ((clean_Fast.f k t191 l1).bind fun bt202 => ((clean_Thorough.f k t191 l1).bind fun bt204 => ((dolmenref9_CheckLog.f k l0).bind fun bt208 => ((dolmenalike_Code.f t195).bind fun t210 => (if t210 = bt208.2 then ((dolmenalike_Code.f t199).bind fun t211 => (if t211 = bt208.2 then ((dolmenalike_Code.f bt202.2).bind fun t212 => (if t212 = bt208.2 then ((dolmenalike_Code.f bt204.2).bind fun t213 => (dolmenlaw14_CleanAsks.j0 k l0 l1 t191 t194 t198 bt202.1 bt204.1 bt208.2 (t213 != bt208.2))) else (dolmenlaw14_CleanAsks.j0 k l0 l1 t191 t194 t198 bt202.1 bt204.1 bt208.2 true))) else (dolmenlaw14_CleanAsks.j0 k l0 l1 t191 t194 t198 bt202.1 bt204.1 bt208.2 true))) else (dolmenlaw14_CleanAsks.j0 k l0 l1 t191 t194 t198 bt202.1 bt204.1 bt208.2 true)))))) = some r := H
    have A7 := Aside0.mk A70
    clear A70
    replace H := Option.bind_eq_some_iff.mp H
    obtain ⟨⟨t202, t203⟩, A80, H⟩ := H
    replace H : ((clean_Thorough.f k t191 l1).bind fun bt204 => ((dolmenref9_CheckLog.f k l0).bind fun bt208 => ((dolmenalike_Code.f t195).bind fun t210 => (if t210 = bt208.2 then ((dolmenalike_Code.f t199).bind fun t211 => (if t211 = bt208.2 then ((dolmenalike_Code.f t203).bind fun t212 => (if t212 = bt208.2 then ((dolmenalike_Code.f bt204.2).bind fun t213 => (dolmenlaw14_CleanAsks.j0 k l0 l1 t191 t194 t198 t202 bt204.1 bt208.2 (t213 != bt208.2))) else (dolmenlaw14_CleanAsks.j0 k l0 l1 t191 t194 t198 t202 bt204.1 bt208.2 true))) else (dolmenlaw14_CleanAsks.j0 k l0 l1 t191 t194 t198 t202 bt204.1 bt208.2 true))) else (dolmenlaw14_CleanAsks.j0 k l0 l1 t191 t194 t198 t202 bt204.1 bt208.2 true))))) = some r := H
    have A8 := Aside0.mk A80
    clear A80
    replace H := Option.bind_eq_some_iff.mp H
    obtain ⟨⟨t204, t207⟩, A90, H⟩ := H
    replace H : ((dolmenref9_CheckLog.f k l0).bind fun bt208 => ((dolmenalike_Code.f t195).bind fun t210 => (if t210 = bt208.2 then ((dolmenalike_Code.f t199).bind fun t211 => (if t211 = bt208.2 then ((dolmenalike_Code.f t203).bind fun t212 => (if t212 = bt208.2 then ((dolmenalike_Code.f t207).bind fun t213 => (dolmenlaw14_CleanAsks.j0 k l0 l1 t191 t194 t198 t202 t204 bt208.2 (t213 != bt208.2))) else (dolmenlaw14_CleanAsks.j0 k l0 l1 t191 t194 t198 t202 t204 bt208.2 true))) else (dolmenlaw14_CleanAsks.j0 k l0 l1 t191 t194 t198 t202 t204 bt208.2 true))) else (dolmenlaw14_CleanAsks.j0 k l0 l1 t191 t194 t198 t202 t204 bt208.2 true)))) = some r := H
    have A9 := Aside0.mk A90
    clear A90
    replace H := Option.bind_eq_some_iff.mp H
    obtain ⟨⟨t208, t209⟩, A100, H⟩ := H
    replace H : ((dolmenalike_Code.f t195).bind fun t210 => (if t210 = t209 then ((dolmenalike_Code.f t199).bind fun t211 => (if t211 = t209 then ((dolmenalike_Code.f t203).bind fun t212 => (if t212 = t209 then ((dolmenalike_Code.f t207).bind fun t213 => (dolmenlaw14_CleanAsks.j0 k l0 l1 t191 t194 t198 t202 t204 t209 (t213 != t209))) else (dolmenlaw14_CleanAsks.j0 k l0 l1 t191 t194 t198 t202 t204 t209 true))) else (dolmenlaw14_CleanAsks.j0 k l0 l1 t191 t194 t198 t202 t204 t209 true))) else (dolmenlaw14_CleanAsks.j0 k l0 l1 t191 t194 t198 t202 t204 t209 true))) = some r := H
    have A10 := Aside0.mk A100
    clear A100
    have HC11 := Aside0.mk H
    clear H
    go_enter Try.func8, Try.ntmps8
    go_upto_region 9 with (first | ((with_reducible refine gate_callee (f := 24) rfl ?_); refine goesL_ (some 23) rfl rfl Try.func24 (by kernel_rfl) rfl #[.slice A0 l0.length c0, .slice A1 l1.length c1] rfl (by (try simp only [List.map_toArray, List.map_cons, List.map_nil]); first | done | rfl | (simp only [List.length_drop, List.length_take]; rfl)) ?_; (with_reducible refine (dolmenlaw14_small.calls k _ _ l0 _ _ l1 true _ ?side1 ?side2 ?side3 ?side4 A3.out).mono ?_); (case side1 => repeat (first | exact HR0.out | (with_reducible refine Kd.C_alloc ?_ _) | (with_reducible refine Kd.C_drewN ?_ _) | (with_reducible refine Kd.C_drew ?_))); (case side2 => exact HC0.out); (case side3 => repeat (first | exact HR1.out | (with_reducible refine Kd.C_alloc ?_ _) | (with_reducible refine Kd.C_drewN ?_ _) | (with_reducible refine Kd.C_drew ?_))); (case side4 => exact HC1.out); rintro e w12 ⟨rfl, hb⟩; refine ⟨_, rfl, ?_⟩; have n0_ := Aside0.mk (below_step (by repeat (first | (with_reducible first | exact HB.out | apply below_alloc | apply pw_below_drewN | apply below_drew1) | exact HB.out)) hb); clear HB; have HB := n0_; clear n0_; (try clear hb); (try clear hb2); (try clear hk); (try clear hi)) | ((with_reducible refine gate_callee (f := 27) rfl ?_); refine goesL_ (some 27) rfl rfl Try.func27 (by kernel_rfl) rfl #[.slice A0 l0.length c0] rfl (by (try simp only [List.map_toArray, List.map_cons, List.map_nil]); first | done | rfl | (simp only [List.length_drop, List.length_take]; rfl)) ?_; (with_reducible refine (dolmenlaw14_made.calls k (fun k_ => k_ < w.heap.size) _ _ l0 t191 _ ?side1 A5.out).mono ?_); (case side1 => exact Kd.V_mk HC0.out (Kd.F_below (Kd.C_F k32_heap HR0.out) (by repeat (first | (with_reducible first | exact HB.out | apply below_alloc | apply pw_below_drewN | apply below_drew1) | exact HB.out)))); rintro e w13 ⟨v192, rfl, ho0, hb⟩; refine ⟨_, rfl, ?_⟩; have n0_ := Aside0.mk (Kd.N_lower (Kd.N_mono (ok' := fun k_ => True) ho0 (fun k_ hk_ => trivial)) (below_size (by repeat (first | (with_reducible first | exact HB.out | apply below_alloc | apply pw_below_drewN | apply below_drew1) | exact HB.out)))); have n1_ := Aside0.mk (below_step (by repeat (first | (with_reducible first | exact HB.out | apply below_alloc | apply pw_below_drewN | apply below_drew1) | exact HB.out)) hb); clear HB; have HO193 := n0_; have HB := n1_; clear n0_ n1_; (try clear hb); (try clear hb2); (try clear hk); (try clear hi); (try clear ho0); obtain ⟨Ao14, co14, eo14⟩ := Kd.N_slice HO193.out; subst eo14) | ((with_reducible refine gate_callee (f := 32) rfl ?_); refine goesL_ (some 30) rfl rfl Try.func32 (by kernel_rfl) rfl #[.slice Ao14 t191.length co14] rfl (by (try simp only [List.map_toArray, List.map_cons, List.map_nil]); first | done | rfl | (simp only [List.length_drop, List.length_take]; rfl)) ?_; (with_reducible refine (clean_Spans.calls k _ _ t191 t194 t195 _ ?side1 ?side2 A6.out).mono ?_); (case side1 => repeat (first | exact (Kd.N_reads' HO193.out).2.2 | (with_reducible refine Kd.C_alloc ?_ _) | (with_reducible refine Kd.C_drewN ?_ _) | (with_reducible refine Kd.C_drew ?_))); (case side2 => exact (Kd.N_reads' HO193.out).2.1); rintro e w15 ⟨v196, rfl, ho0, hb⟩; refine ⟨_, rfl, ?_⟩; have n0_ := Aside0.mk (Kd.N_elder' (by (with_reducible repeat (first | apply Kd.N_alloc | apply Kd.N_drewN | apply Kd.N_drew)); exact HO193.out) (Kd.R_base ho0) hb); have n1_ := Aside0.mk (Kd.R_lower ho0 (below_size (by repeat (first | (with_reducible first | exact HB.out | apply below_alloc | apply pw_below_drewN | apply below_drew1) | exact HB.out)))); have n2_ := Aside0.mk (below_step (by repeat (first | (with_reducible first | exact HB.out | apply below_alloc | apply pw_below_drewN | apply below_drew1) | exact HB.out)) hb); clear HO193; clear HB; have HO193 := n0_; have HO197 := n1_; have HB := n2_; clear n0_ n1_ n2_; (try clear hb); (try clear hb2); (try clear hk); (try clear hi); (try clear ho0); (try simp only [errW_none, errW_some])) | ((with_reducible refine gate_callee (f := 28) rfl ?_); refine goesL_ (some 36) rfl rfl Try.func28 (by kernel_rfl) rfl #[.slice Ao14 t191.length co14, .slice A1 l1.length c1] rfl (by (try simp only [List.map_toArray, List.map_cons, List.map_nil]); first | done | rfl | (simp only [List.length_drop, List.length_take]; rfl)) ?_; (with_reducible refine (clean_Needed.calls k _ _ t191 _ _ l1 t198 t199 _ ?side1 ?side2 ?side3 ?side4 A7.out).mono ?_); (case side1 => repeat (first | exact (Kd.N_reads' HO193.out).2.2 | (with_reducible refine Kd.C_alloc ?_ _) | (with_reducible refine Kd.C_drewN ?_ _) | (with_reducible refine Kd.C_drew ?_))); (case side2 => exact (Kd.N_reads' HO193.out).2.1); (case side3 => repeat (first | exact (Kd.C_below HR1.out HB.out) | (with_reducible refine Kd.C_alloc ?_ _) | (with_reducible refine Kd.C_drewN ?_ _) | (with_reducible refine Kd.C_drew ?_))); (case side4 => exact HC1.out); rintro e w16 ⟨v200, rfl, ho0, hb⟩; refine ⟨_, rfl, ?_⟩; have n0_ := Aside0.mk (Kd.N_elder' (by (with_reducible repeat (first | apply Kd.N_alloc | apply Kd.N_drewN | apply Kd.N_drew)); exact HO193.out) (Kd.R_base ho0) hb); have n1_ := Aside0.mk (Kd.R_below (by (with_reducible repeat (first | apply Kd.R_alloc | apply Kd.R_drewN | apply Kd.R_drew)); exact HO197.out) hb); have n2_ := Aside0.mk (Kd.R_lower ho0 (below_size (by repeat (first | (with_reducible first | exact HB.out | apply below_alloc | apply pw_below_drewN | apply below_drew1) | exact HB.out)))); have n3_ := Aside0.mk (below_step (by repeat (first | (with_reducible first | exact HB.out | apply below_alloc | apply pw_below_drewN | apply below_drew1) | exact HB.out)) hb); clear HO193; clear HO197; clear HB; have HO193 := n0_; have HO197 := n1_; have HO201 := n2_; have HB := n3_; clear n0_ n1_ n2_ n3_; (try clear hb); (try clear hb2); (try clear hk); (try clear hi); (try clear ho0); (try simp only [errW_none, errW_some])) | ((with_reducible refine gate_callee (f := 29) rfl ?_); refine goesL_ (some 42) rfl rfl Try.func29 (by kernel_rfl) rfl #[.slice Ao14 t191.length co14, .slice A1 l1.length c1] rfl (by (try simp only [List.map_toArray, List.map_cons, List.map_nil]); first | done | rfl | (simp only [List.length_drop, List.length_take]; rfl)) ?_; (with_reducible refine (clean_Fast.calls k _ _ t191 _ _ l1 t202 t203 _ ?side1 ?side2 ?side3 ?side4 A8.out).mono ?_); (case side1 => repeat (first | exact (Kd.N_reads' HO193.out).2.2 | (with_reducible refine Kd.C_alloc ?_ _) | (with_reducible refine Kd.C_drewN ?_ _) | (with_reducible refine Kd.C_drew ?_))); (case side2 => exact (Kd.N_reads' HO193.out).2.1); (case side3 => repeat (first | exact (Kd.C_below HR1.out HB.out) | (with_reducible refine Kd.C_alloc ?_ _) | (with_reducible refine Kd.C_drewN ?_ _) | (with_reducible refine Kd.C_drew ?_))); (case side4 => exact HC1.out); rintro e w17 ⟨rfl, hb⟩; refine ⟨_, rfl, ?_⟩; have n0_ := Aside0.mk (Kd.N_below (by (with_reducible repeat (first | apply Kd.N_alloc | apply Kd.N_drewN | apply Kd.N_drew)); exact HO193.out) hb); have n1_ := Aside0.mk (Kd.R_below (by (with_reducible repeat (first | apply Kd.R_alloc | apply Kd.R_drewN | apply Kd.R_drew)); exact HO197.out) hb); have n2_ := Aside0.mk (Kd.R_below (by (with_reducible repeat (first | apply Kd.R_alloc | apply Kd.R_drewN | apply Kd.R_drew)); exact HO201.out) hb); have n3_ := Aside0.mk (below_step (by repeat (first | (with_reducible first | exact HB.out | apply below_alloc | apply pw_below_drewN | apply below_drew1) | exact HB.out)) hb); clear HO193; clear HO197; clear HO201; clear HB; have HO193 := n0_; have HO197 := n1_; have HO201 := n2_; have HB := n3_; clear n0_ n1_ n2_ n3_; (try clear hb); (try clear hb2); (try clear hk); (try clear hi); (try simp only [errW_none, errW_some])) | ((with_reducible refine gate_callee (f := 31) rfl ?_); refine goesL_ (some 48) rfl rfl Try.func31 (by kernel_rfl) rfl #[.slice Ao14 t191.length co14, .slice A1 l1.length c1] rfl (by (try simp only [List.map_toArray, List.map_cons, List.map_nil]); first | done | rfl | (simp only [List.length_drop, List.length_take]; rfl)) ?_; (with_reducible refine (clean_Thorough.calls k _ _ t191 _ _ l1 t204 t207 _ ?side1 ?side2 ?side3 ?side4 A9.out).mono ?_); (case side1 => repeat (first | exact (Kd.N_reads' HO193.out).2.2 | (with_reducible refine Kd.C_alloc ?_ _) | (with_reducible refine Kd.C_drewN ?_ _) | (with_reducible refine Kd.C_drew ?_))); (case side2 => exact (Kd.N_reads' HO193.out).2.1); (case side3 => repeat (first | exact (Kd.C_below HR1.out HB.out) | (with_reducible refine Kd.C_alloc ?_ _) | (with_reducible refine Kd.C_drewN ?_ _) | (with_reducible refine Kd.C_drew ?_))); (case side4 => exact HC1.out); rintro e w18 ⟨v205, rfl, ho0, hb⟩; refine ⟨_, rfl, ?_⟩; have n0_ := Aside0.mk (Kd.N_below (by (with_reducible repeat (first | apply Kd.N_alloc | apply Kd.N_drewN | apply Kd.N_drew)); exact HO193.out) hb); have n1_ := Aside0.mk (Kd.R_below (by (with_reducible repeat (first | apply Kd.R_alloc | apply Kd.R_drewN | apply Kd.R_drew)); exact HO197.out) hb); have n2_ := Aside0.mk (Kd.R_below (by (with_reducible repeat (first | apply Kd.R_alloc | apply Kd.R_drewN | apply Kd.R_drew)); exact HO201.out) hb); have n3_ := Aside0.mk (Kd.V_lower (Kd.V_mono (ok' := fun k_ => some k_ ≠ (.slice Ao14 t191.length co14 : Value).ownBlock ∧ some k_ ≠ (v196 : Value).ownBlock ∧ some k_ ≠ (v200 : Value).ownBlock) ho0 (fun k_ hk_ => ⟨(Kd.fresh' (Kd.N_lt (by (with_reducible repeat (first | apply Kd.N_alloc | apply Kd.N_drewN | apply Kd.N_drew)); exact HO193.out)) k_ hk_), (Kd.fresh' (Kd.R_lt (by (with_reducible repeat (first | apply Kd.R_alloc | apply Kd.R_drewN | apply Kd.R_drew)); exact HO197.out)) k_ hk_), (Kd.fresh' (Kd.R_lt (by (with_reducible repeat (first | apply Kd.R_alloc | apply Kd.R_drewN | apply Kd.R_drew)); exact HO201.out)) k_ hk_)⟩)) (below_size (by repeat (first | (with_reducible first | exact HB.out | apply below_alloc | apply pw_below_drewN | apply below_drew1) | exact HB.out)))); have n4_ := Aside0.mk (below_step (by repeat (first | (with_reducible first | exact HB.out | apply below_alloc | apply pw_below_drewN | apply below_drew1) | exact HB.out)) hb); clear HO193; clear HO197; clear HO201; clear HB; have HO193 := n0_; have HO197 := n1_; have HO201 := n2_; have HO206 := n3_; have HB := n4_; clear n0_ n1_ n2_ n3_ n4_; (try clear hb); (try clear hb2); (try clear hk); (try clear hi); (try clear ho0); (try simp only [errW_none, errW_some])) | ((with_reducible refine gate_callee (f := 26) rfl ?_); refine goesL_ (some 53) rfl rfl Try.func26 (by kernel_rfl) rfl #[.slice A0 l0.length c0] rfl (by (try simp only [List.map_toArray, List.map_cons, List.map_nil]); first | done | rfl | (simp only [List.length_drop, List.length_take]; rfl)) ?_; (with_reducible refine (dolmenref9_CheckLog.calls k _ _ l0 t208 t209 _ ?side1 ?side2 A10.out).mono ?_); (case side1 => repeat (first | exact (Kd.C_below HR0.out HB.out) | (with_reducible refine Kd.C_alloc ?_ _) | (with_reducible refine Kd.C_drewN ?_ _) | (with_reducible refine Kd.C_drew ?_))); (case side2 => exact HC0.out); rintro e w19 ⟨rfl, hb⟩; refine ⟨_, rfl, ?_⟩; have n0_ := Aside0.mk (Kd.N_below (by (with_reducible repeat (first | apply Kd.N_alloc | apply Kd.N_drewN | apply Kd.N_drew)); exact HO193.out) hb); have n1_ := Aside0.mk (Kd.R_below (by (with_reducible repeat (first | apply Kd.R_alloc | apply Kd.R_drewN | apply Kd.R_drew)); exact HO197.out) hb); have n2_ := Aside0.mk (Kd.R_below (by (with_reducible repeat (first | apply Kd.R_alloc | apply Kd.R_drewN | apply Kd.R_drew)); exact HO201.out) hb); have n3_ := Aside0.mk (Kd.V_below (by (with_reducible repeat (first | apply Kd.V_alloc | apply Kd.V_drewN | apply Kd.V_drew)); exact HO206.out) hb); have n4_ := Aside0.mk (below_step (by repeat (first | (with_reducible first | exact HB.out | apply below_alloc | apply pw_below_drewN | apply below_drew1) | exact HB.out)) hb); clear HO193; clear HO197; clear HO201; clear HO206; clear HB; have HO193 := n0_; have HO197 := n1_; have HO201 := n2_; have HO206 := n3_; have HB := n4_; clear n0_ n1_ n2_ n3_ n4_; (try clear hb); (try clear hb2); (try clear hk); (try clear hi)))
    (try simp only [Act.put, List.setIfInBounds_toArray, List.set_cons_zero, List.set_cons_succ])
    go_cut [77] (fun v77 wc => ∃ (kq : Nat) (x77_10 : Bool), v77 = .bool x77_10 ∧ Aside0 (dolmenlaw14_CleanAsks.j0 kq l0 l1 t191 t194 t198 t202 t204 t209 x77_10 = some r) ∧ Aside0 (kq ≤ k) ∧ Aside0 (Kd.N k50 50 wc w.heap.size (fun k_ => some k_ ≠ (v196 : Value).ownBlock ∧ some k_ ≠ (v200 : Value).ownBlock) (.slice Ao14 t191.length co14) t191) ∧ Aside0 (Kd.R k64 64 wc w.heap.size (fun _ => True) v196 t194) ∧ Aside0 (Kd.R (Kd.int .i64) 3 wc w.heap.size (fun _ => True) v200 t198) ∧ Aside0 (Kd.V k50 50 wc w.heap.size (fun k_ => some k_ ≠ ((.slice Ao14 t191.length co14) : Value).ownBlock ∧ some k_ ≠ (v196 : Value).ownBlock ∧ some k_ ≠ (v200 : Value).ownBlock) v205 t204) ∧ Aside0 (Below w.heap.size w wc))
    case first =>
      have H := HC11.out
      clear HC11
      replace H := Option.bind_eq_some_iff.mp H
      obtain ⟨t210, A200, H⟩ := H
      replace H : (if t210 = t209 then ((dolmenalike_Code.f t199).bind fun t211 => (if t211 = t209 then ((dolmenalike_Code.f t203).bind fun t212 => (if t212 = t209 then ((dolmenalike_Code.f t207).bind fun t213 => (dolmenlaw14_CleanAsks.j0 k l0 l1 t191 t194 t198 t202 t204 t209 (t213 != t209))) else (dolmenlaw14_CleanAsks.j0 k l0 l1 t191 t194 t198 t202 t204 t209 true))) else (dolmenlaw14_CleanAsks.j0 k l0 l1 t191 t194 t198 t202 t204 t209 true))) else (dolmenlaw14_CleanAsks.j0 k l0 l1 t191 t194 t198 t202 t204 t209 true)) = some r := H
      have A20 := Aside0.mk A200
      clear A200
      by_cases c21 : t210 = t209
      · rw [if_pos c21] at H
        have c21b0 : (t210 == t209) = true := beq_iff_eq.mpr c21
        have c21b1 : (t210 != t209) = false := bne_eq_false_iff_eq.mpr c21
        clear c21
        (first | rw [c21b0] | (simp only [i64_w, i32_w]; rw [c21b0]) | skip)
        replace H := Option.bind_eq_some_iff.mp H
        obtain ⟨t211, A220, H⟩ := H
        replace H : (if t211 = t209 then ((dolmenalike_Code.f t203).bind fun t212 => (if t212 = t209 then ((dolmenalike_Code.f t207).bind fun t213 => (dolmenlaw14_CleanAsks.j0 k l0 l1 t191 t194 t198 t202 t204 t209 (t213 != t209))) else (dolmenlaw14_CleanAsks.j0 k l0 l1 t191 t194 t198 t202 t204 t209 true))) else (dolmenlaw14_CleanAsks.j0 k l0 l1 t191 t194 t198 t202 t204 t209 true)) = some r := H
        have A22 := Aside0.mk A220
        clear A220
        by_cases c23 : t211 = t209
        · rw [if_pos c23] at H
          have c23b0 : (t211 == t209) = true := beq_iff_eq.mpr c23
          have c23b1 : (t211 != t209) = false := bne_eq_false_iff_eq.mpr c23
          clear c23
          replace H := Option.bind_eq_some_iff.mp H
          obtain ⟨t212, A240, H⟩ := H
          replace H : (if t212 = t209 then ((dolmenalike_Code.f t207).bind fun t213 => (dolmenlaw14_CleanAsks.j0 k l0 l1 t191 t194 t198 t202 t204 t209 (t213 != t209))) else (dolmenlaw14_CleanAsks.j0 k l0 l1 t191 t194 t198 t202 t204 t209 true)) = some r := H
          have A24 := Aside0.mk A240
          clear A240
          by_cases c25 : t212 = t209
          · rw [if_pos c25] at H
            have c25b0 : (t212 == t209) = true := beq_iff_eq.mpr c25
            have c25b1 : (t212 != t209) = false := bne_eq_false_iff_eq.mpr c25
            clear c25
            replace H := Option.bind_eq_some_iff.mp H
            obtain ⟨t213, A260, H⟩ := H
            replace H : (dolmenlaw14_CleanAsks.j0 k l0 l1 t191 t194 t198 t202 t204 t209 (t213 != t209)) = some r := H
            have A26 := Aside0.mk A260
            clear A260
            have H' := Aside0.mk H
            clear H
            have CA20 := fun W => dolmenalike_Code.calls t195 t210 W A20.out
            try simp only [errW_none, errW_some] at CA20
            go_wp2_with (first | (go_at_call 33; (with_reducible refine (CA20 _).mono ?_); rintro e w' ⟨rfl, ⟨nd, rfl⟩⟩; have CA22 := fun W => dolmenalike_Code.calls t199 t211 W A22.out; try simp only [errW_none, errW_some] at CA22) | (go_at_call 33; (with_reducible refine (CA22 _).mono ?_); rintro e w' ⟨rfl, ⟨nd, rfl⟩⟩; have CA24 := fun W => dolmenalike_Code.calls t203 t212 W A24.out; try simp only [errW_none, errW_some] at CA24) | (go_at_call 33; (with_reducible refine (CA24 _).mono ?_); rintro e w' ⟨rfl, ⟨nd, rfl⟩⟩; have CA26 := fun W => dolmenalike_Code.calls t207 t213 W A26.out; try simp only [errW_none, errW_some] at CA26) | (go_at_call 33; (with_reducible refine (CA26 _).mono ?_); rintro e w' ⟨rfl, ⟨nd, rfl⟩⟩))
            go_meet
            case rel => exact ⟨_, ((t213 != t209)), (by first | rfl | (simp; done) | (simp [*]; done)), H', ⟨by first | omega | exact Nat.le_refl _⟩, ⟨by (with_reducible repeat (first | apply Kd.N_alloc | apply Kd.N_drewN | apply Kd.N_drew)); exact Kd.N_mono HO193.out (fun _ hk => ⟨hk.1.2, hk.2⟩)⟩, ⟨by (with_reducible repeat (first | apply Kd.R_alloc | apply Kd.R_drewN | apply Kd.R_drew)); exact HO197.out⟩, ⟨by (with_reducible repeat (first | apply Kd.R_alloc | apply Kd.R_drewN | apply Kd.R_drew)); exact HO201.out⟩, ⟨by (with_reducible repeat (first | apply Kd.V_alloc | apply Kd.V_drewN | apply Kd.V_drew)); exact HO206.out⟩, ⟨by repeat (first | (with_reducible first | exact HB.out | apply below_alloc | apply pw_below_drewN | apply below_drew1) | exact HB.out)⟩⟩
          · rw [if_neg c25] at H
            have c25b0 : (t212 == t209) = false := beq_eq_false_iff_ne.mpr c25
            have c25b1 : (t212 != t209) = true := bne_iff_ne.mpr c25
            have H' := Aside0.mk H
            clear H
            have CA20 := fun W => dolmenalike_Code.calls t195 t210 W A20.out
            try simp only [errW_none, errW_some] at CA20
            go_wp2_with (first | (go_at_call 33; (with_reducible refine (CA20 _).mono ?_); rintro e w' ⟨rfl, ⟨nd, rfl⟩⟩; have CA22 := fun W => dolmenalike_Code.calls t199 t211 W A22.out; try simp only [errW_none, errW_some] at CA22) | (go_at_call 33; (with_reducible refine (CA22 _).mono ?_); rintro e w' ⟨rfl, ⟨nd, rfl⟩⟩; have CA24 := fun W => dolmenalike_Code.calls t203 t212 W A24.out; try simp only [errW_none, errW_some] at CA24) | (go_at_call 33; (with_reducible refine (CA24 _).mono ?_); rintro e w' ⟨rfl, ⟨nd, rfl⟩⟩))
            go_meet
            case rel => exact ⟨_, (true), (by first | rfl | (simp; done) | (simp [*]; done)), H', ⟨by first | omega | exact Nat.le_refl _⟩, ⟨by (with_reducible repeat (first | apply Kd.N_alloc | apply Kd.N_drewN | apply Kd.N_drew)); exact Kd.N_mono HO193.out (fun _ hk => ⟨hk.1.2, hk.2⟩)⟩, ⟨by (with_reducible repeat (first | apply Kd.R_alloc | apply Kd.R_drewN | apply Kd.R_drew)); exact HO197.out⟩, ⟨by (with_reducible repeat (first | apply Kd.R_alloc | apply Kd.R_drewN | apply Kd.R_drew)); exact HO201.out⟩, ⟨by (with_reducible repeat (first | apply Kd.V_alloc | apply Kd.V_drewN | apply Kd.V_drew)); exact HO206.out⟩, ⟨by repeat (first | (with_reducible first | exact HB.out | apply below_alloc | apply pw_below_drewN | apply below_drew1) | exact HB.out)⟩⟩
        · rw [if_neg c23] at H
          have c23b0 : (t211 == t209) = false := beq_eq_false_iff_ne.mpr c23
          have c23b1 : (t211 != t209) = true := bne_iff_ne.mpr c23
          have H' := Aside0.mk H
          clear H
          have CA20 := fun W => dolmenalike_Code.calls t195 t210 W A20.out
          try simp only [errW_none, errW_some] at CA20
          go_wp2_with (first | (go_at_call 33; (with_reducible refine (CA20 _).mono ?_); rintro e w' ⟨rfl, ⟨nd, rfl⟩⟩; have CA22 := fun W => dolmenalike_Code.calls t199 t211 W A22.out; try simp only [errW_none, errW_some] at CA22) | (go_at_call 33; (with_reducible refine (CA22 _).mono ?_); rintro e w' ⟨rfl, ⟨nd, rfl⟩⟩))
          go_meet
          case rel => exact ⟨_, (true), (by first | rfl | (simp; done) | (simp [*]; done)), H', ⟨by first | omega | exact Nat.le_refl _⟩, ⟨by (with_reducible repeat (first | apply Kd.N_alloc | apply Kd.N_drewN | apply Kd.N_drew)); exact Kd.N_mono HO193.out (fun _ hk => ⟨hk.1.2, hk.2⟩)⟩, ⟨by (with_reducible repeat (first | apply Kd.R_alloc | apply Kd.R_drewN | apply Kd.R_drew)); exact HO197.out⟩, ⟨by (with_reducible repeat (first | apply Kd.R_alloc | apply Kd.R_drewN | apply Kd.R_drew)); exact HO201.out⟩, ⟨by (with_reducible repeat (first | apply Kd.V_alloc | apply Kd.V_drewN | apply Kd.V_drew)); exact HO206.out⟩, ⟨by repeat (first | (with_reducible first | exact HB.out | apply below_alloc | apply pw_below_drewN | apply below_drew1) | exact HB.out)⟩⟩
      · rw [if_neg c21] at H
        have c21b0 : (t210 == t209) = false := beq_eq_false_iff_ne.mpr c21
        have c21b1 : (t210 != t209) = true := bne_iff_ne.mpr c21
        (first | rw [c21b0] | (simp only [i64_w, i32_w]; rw [c21b0]) | skip)
        have H' := Aside0.mk H
        clear H
        have CA20 := fun W => dolmenalike_Code.calls t195 t210 W A20.out
        try simp only [errW_none, errW_some] at CA20
        go_wp2_with (first | (go_at_call 33; (with_reducible refine (CA20 _).mono ?_); rintro e w' ⟨rfl, ⟨nd, rfl⟩⟩))
        go_meet
        case rel => exact ⟨_, (true), (by first | rfl | (simp; done) | (simp [*]; done)), H', ⟨by first | omega | exact Nat.le_refl _⟩, ⟨by (with_reducible repeat (first | apply Kd.N_alloc | apply Kd.N_drewN | apply Kd.N_drew)); exact Kd.N_mono HO193.out (fun _ hk => ⟨hk.1.2, hk.2⟩)⟩, ⟨by (with_reducible repeat (first | apply Kd.R_alloc | apply Kd.R_drewN | apply Kd.R_drew)); exact HO197.out⟩, ⟨by (with_reducible repeat (first | apply Kd.R_alloc | apply Kd.R_drewN | apply Kd.R_drew)); exact HO201.out⟩, ⟨by (with_reducible repeat (first | apply Kd.V_alloc | apply Kd.V_drewN | apply Kd.V_drew)); exact HO206.out⟩, ⟨by repeat (first | (with_reducible first | exact HB.out | apply below_alloc | apply pw_below_drewN | apply below_drew1) | exact HB.out)⟩⟩
    case rest =>
      clear HC11
      try clear c1
      try clear c2
      try clear p2
      try clear c3
      try clear c4
      try clear c8
      try clear c21
      try clear c21b0
      try clear c21b1
      try clear c23
      try clear c23b0
      try clear c23b1
      try clear c24
      try clear c25
      try clear c25b0
      try clear c25b1
      try clear c26
      obtain ⟨kq, x77_10, rfl, HA, HJ10, HO_5, HO_6, HO_8, HO_12, HB⟩ := hcut
      cases kq with
      | zero => exact absurd HA.out (by simp [dolmenlaw14_CleanAsks.j0])
      | succ kj10 =>
        have H := HA.out
        clear HA
        simp only [dolmenlaw14_CleanAsks.j0] at H
        by_cases c27 : x77_10 = true
        · subst c27
          have H1 : (some false) = some r := by rw [if_pos rfl] at H; exact H
          clear H
          have H := H1
          clear H1
          obtain rfl := Option.some.inj H
          go_wp2
          go_ret
          exact ⟨by first | rfl | (simp [errW_none, errW_some] <;> rfl) | (simp [*, errW_none, errW_some] <;> rfl), by repeat (first | (with_reducible first | exact HB.out | apply below_alloc | apply pw_below_drewN | apply below_drew1) | exact HB.out)⟩
        · replace c27 := Bool.eq_false_iff.mpr c27
          subst c27
          have H1 : (if t209 = 0 then ((dolmenref9_Spans.f kj10 l0).bind fun t215 => ((dolmenref9_NeededEntries.f kj10 l0 l1).bind fun t218 => (if (t194.length : Int) = (t215.length : Int) then ((dolmenref5_Ints.f kj10 t198 t218).bind fun t221 => (if t221 = true then (dolmenlaw14_CleanAsks.j1 kj10 l0 t191 t194 t202 t204 t215 t218 ((t204.length : Int) != (t218.length : Int))) else (dolmenlaw14_CleanAsks.j1 kj10 l0 t191 t194 t202 t204 t215 t218 true))) else (dolmenlaw14_CleanAsks.j1 kj10 l0 t191 t194 t202 t204 t215 t218 true)))) else (if (t194.length : Int) = 0 then (if (t198.length : Int) = 0 then (if t202 = 0 then (if (t204.length : Int) = 0 then ((dolmenlaw14_awake.f).bind fun t214 => (some t214)) else (some false)) else (some false)) else (some false)) else (some false))) = some r := by rw [if_neg (show ¬ (false = true) by decide)] at H; exact H
          clear H
          have H := H1
          clear H1
          by_cases c28 : t209 = 0
          · rw [if_pos c28] at H
            have c28b0 : (t209 == 0) = true := beq_iff_eq.mpr c28
            have c28b1 : (t209 != 0) = false := bne_eq_false_iff_eq.mpr c28
            clear c28
            replace H := Option.bind_eq_some_iff.mp H
            obtain ⟨t215, A290, H⟩ := H
            replace H : ((dolmenref9_NeededEntries.f kj10 l0 l1).bind fun t218 => (if (t194.length : Int) = (t215.length : Int) then ((dolmenref5_Ints.f kj10 t198 t218).bind fun t221 => (if t221 = true then (dolmenlaw14_CleanAsks.j1 kj10 l0 t191 t194 t202 t204 t215 t218 ((t204.length : Int) != (t218.length : Int))) else (dolmenlaw14_CleanAsks.j1 kj10 l0 t191 t194 t202 t204 t215 t218 true))) else (dolmenlaw14_CleanAsks.j1 kj10 l0 t191 t194 t202 t204 t215 t218 true))) = some r := H
            have A29 := Aside0.mk A290
            clear A290
            replace H := Option.bind_eq_some_iff.mp H
            obtain ⟨t218, A300, H⟩ := H
            replace H : (if (t194.length : Int) = (t215.length : Int) then ((dolmenref5_Ints.f kj10 t198 t218).bind fun t221 => (if t221 = true then (dolmenlaw14_CleanAsks.j1 kj10 l0 t191 t194 t202 t204 t215 t218 ((t204.length : Int) != (t218.length : Int))) else (dolmenlaw14_CleanAsks.j1 kj10 l0 t191 t194 t202 t204 t215 t218 true))) else (dolmenlaw14_CleanAsks.j1 kj10 l0 t191 t194 t202 t204 t215 t218 true)) = some r := H
            have A30 := Aside0.mk A300
            clear A300
            have HC31 := Aside0.mk H
            clear H
            go_upto_region 15 with (first | ((with_reducible refine gate_callee (f := 34) rfl ?_); refine goesL_ (some 101) rfl rfl Try.func34 (by kernel_rfl) rfl #[.slice A0 l0.length c0] rfl (by (try simp only [List.map_toArray, List.map_cons, List.map_nil]); first | done | rfl | (simp only [List.length_drop, List.length_take]; rfl)) ?_; (with_reducible refine (dolmenref9_Spans.calls kj10 _ _ l0 t215 _ ?side1 ?side2 A29.out).mono ?_); (case side1 => repeat (first | exact (Kd.C_below HR0.out HB.out) | (with_reducible refine Kd.C_alloc ?_ _) | (with_reducible refine Kd.C_drewN ?_ _) | (with_reducible refine Kd.C_drew ?_))); (case side2 => exact HC0.out); rintro e w32 ⟨v216, rfl, ho0, hb⟩; refine ⟨_, rfl, ?_⟩; have n0_ := Aside0.mk (Kd.N_elder' (by (with_reducible repeat (first | apply Kd.N_alloc | apply Kd.N_drewN | apply Kd.N_drew)); exact HO_5.out) (Kd.R_base ho0) hb); have n1_ := Aside0.mk (Kd.R_below (by (with_reducible repeat (first | apply Kd.R_alloc | apply Kd.R_drewN | apply Kd.R_drew)); exact HO_6.out) hb); have n2_ := Aside0.mk (Kd.R_below (by (with_reducible repeat (first | apply Kd.R_alloc | apply Kd.R_drewN | apply Kd.R_drew)); exact HO_8.out) hb); have n3_ := Aside0.mk (Kd.V_elder' (by (with_reducible repeat (first | apply Kd.V_alloc | apply Kd.V_drewN | apply Kd.V_drew)); exact HO_12.out) (Kd.R_base ho0) hb); have n4_ := Aside0.mk (Kd.R_lower ho0 (below_size (by repeat (first | (with_reducible first | exact HB.out | apply below_alloc | apply pw_below_drewN | apply below_drew1) | exact HB.out)))); have n5_ := Aside0.mk (below_step (by repeat (first | (with_reducible first | exact HB.out | apply below_alloc | apply pw_below_drewN | apply below_drew1) | exact HB.out)) hb); clear HO_5; clear HO_6; clear HO_8; clear HO_12; clear HB; have HO_5 := n0_; have HO_6 := n1_; have HO_8 := n2_; have HO_12 := n3_; have HO217 := n4_; have HB := n5_; clear n0_ n1_ n2_ n3_ n4_ n5_; (try clear hb); (try clear hb2); (try clear hk); (try clear hi); (try clear ho0)) | ((with_reducible refine gate_callee (f := 35) rfl ?_); refine goesL_ (some 104) rfl rfl Try.func35 (by kernel_rfl) rfl #[.slice A0 l0.length c0, .slice A1 l1.length c1] rfl (by (try simp only [List.map_toArray, List.map_cons, List.map_nil]); first | done | rfl | (simp only [List.length_drop, List.length_take]; rfl)) ?_; (with_reducible refine (dolmenref9_NeededEntries.calls kj10 _ _ l0 _ _ l1 t218 _ ?side1 ?side2 ?side3 ?side4 A30.out).mono ?_); (case side1 => repeat (first | exact (Kd.C_below HR0.out HB.out) | (with_reducible refine Kd.C_alloc ?_ _) | (with_reducible refine Kd.C_drewN ?_ _) | (with_reducible refine Kd.C_drew ?_))); (case side2 => exact HC0.out); (case side3 => repeat (first | exact (Kd.C_below HR1.out HB.out) | (with_reducible refine Kd.C_alloc ?_ _) | (with_reducible refine Kd.C_drewN ?_ _) | (with_reducible refine Kd.C_drew ?_))); (case side4 => exact HC1.out); rintro e w33 ⟨v219, rfl, ho0, hb⟩; refine ⟨_, rfl, ?_⟩; have n0_ := Aside0.mk (Kd.N_elder' (by (with_reducible repeat (first | apply Kd.N_alloc | apply Kd.N_drewN | apply Kd.N_drew)); exact HO_5.out) (Kd.R_base ho0) hb); have n1_ := Aside0.mk (Kd.R_below (by (with_reducible repeat (first | apply Kd.R_alloc | apply Kd.R_drewN | apply Kd.R_drew)); exact HO_6.out) hb); have n2_ := Aside0.mk (Kd.R_elder' (by (with_reducible repeat (first | apply Kd.R_alloc | apply Kd.R_drewN | apply Kd.R_drew)); exact HO_8.out) (Kd.R_base ho0) hb); have n3_ := Aside0.mk (Kd.V_elder' (by (with_reducible repeat (first | apply Kd.V_alloc | apply Kd.V_drewN | apply Kd.V_drew)); exact HO_12.out) (Kd.R_base ho0) hb); have n4_ := Aside0.mk (Kd.R_below (by (with_reducible repeat (first | apply Kd.R_alloc | apply Kd.R_drewN | apply Kd.R_drew)); exact HO217.out) hb); have n5_ := Aside0.mk (Kd.R_lower (Kd.R_new' ho0 (Kd.R_lt (by (with_reducible repeat (first | apply Kd.R_alloc | apply Kd.R_drewN | apply Kd.R_drew)); exact HO_8.out))) (below_size (by repeat (first | (with_reducible first | exact HB.out | apply below_alloc | apply pw_below_drewN | apply below_drew1) | exact HB.out)))); have n6_ := Aside0.mk (below_step (by repeat (first | (with_reducible first | exact HB.out | apply below_alloc | apply pw_below_drewN | apply below_drew1) | exact HB.out)) hb); clear HO_5; clear HO_6; clear HO_8; clear HO_12; clear HO217; clear HB; have HO_5 := n0_; have HO_6 := n1_; have HO_8 := n2_; have HO_12 := n3_; have HO217 := n4_; have HO220 := n5_; have HB := n6_; clear n0_ n1_ n2_ n3_ n4_ n5_ n6_; (try clear hb); (try clear hb2); (try clear hk); (try clear hi); (try clear ho0)))
            (try simp only [Act.put, List.setIfInBounds_toArray, List.set_cons_zero, List.set_cons_succ])
            go_cut [122] (fun v122 wc => ∃ (kq : Nat) (x122_30 : Bool), v122 = .bool x122_30 ∧ Aside0 (dolmenlaw14_CleanAsks.j1 kq l0 t191 t194 t202 t204 t215 t218 x122_30 = some r) ∧ Aside0 (kq ≤ kj10) ∧ Aside0 (Kd.N k50 50 wc w.heap.size (fun k_ => some k_ ≠ (v196 : Value).ownBlock ∧ some k_ ≠ (v216 : Value).ownBlock ∧ some k_ ≠ (v219 : Value).ownBlock) (.slice Ao14 t191.length co14) t191) ∧ Aside0 (Kd.R k64 64 wc w.heap.size (fun _ => True) v196 t194) ∧ Aside0 (Kd.V k50 50 wc w.heap.size (fun k_ => some k_ ≠ ((.slice Ao14 t191.length co14) : Value).ownBlock ∧ some k_ ≠ (v196 : Value).ownBlock ∧ some k_ ≠ (v216 : Value).ownBlock ∧ some k_ ≠ (v219 : Value).ownBlock) v205 t204) ∧ Aside0 (Kd.R k65 65 wc w.heap.size (fun _ => True) v216 t215) ∧ Aside0 (Kd.R (Kd.int .i64) 3 wc w.heap.size (fun _ => True) v219 t218) ∧ Aside0 (Below w.heap.size w wc))
            case first =>
              have H := HC31.out
              clear HC31
              by_cases c34 : (t194.length : Int) = (t215.length : Int)
              · rw [if_pos c34] at H
                have c34b0 : ((t194.length : Int) == (t215.length : Int)) = true := beq_iff_eq.mpr c34
                have c34b1 : ((t194.length : Int) != (t215.length : Int)) = false := bne_eq_false_iff_eq.mpr c34
                have c34b2 : (t194.length == t215.length) = true := by first | simpa using c34 | (simp at c34 ⊢; omega)
                clear c34
                (first | rw [c34b0] | (simp only [i64_w, i32_w]; rw [c34b0]) | skip)
                replace H := Option.bind_eq_some_iff.mp H
                obtain ⟨t221, A350, H⟩ := H
                replace H : (if t221 = true then (dolmenlaw14_CleanAsks.j1 kj10 l0 t191 t194 t202 t204 t215 t218 ((t204.length : Int) != (t218.length : Int))) else (dolmenlaw14_CleanAsks.j1 kj10 l0 t191 t194 t202 t204 t215 t218 true)) = some r := H
                have A35 := Aside0.mk A350
                clear A350
                by_cases c36 : t221 = true
                · subst c36
                  have H1 : (dolmenlaw14_CleanAsks.j1 kj10 l0 t191 t194 t202 t204 t215 t218 ((t204.length : Int) != (t218.length : Int))) = some r := by rw [if_pos rfl] at H; exact H
                  clear H
                  have H := H1
                  clear H1
                  have H' := Aside0.mk H
                  clear H
                  obtain ⟨Ao37, co37, eo37⟩ := Kd.R_slice HO_6.out
                  subst eo37
                  obtain ⟨Ao38, co38, eo38⟩ := Kd.R_slice HO217.out
                  subst eo38
                  obtain ⟨Ao39, co39, eo39⟩ := Kd.R_slice HO_8.out
                  subst eo39
                  obtain ⟨Ao40, co40, eo40⟩ := Kd.R_slice HO220.out
                  subst eo40
                  go_wp2_with (first | (go_at_call 30; (with_reducible refine (dolmenref5_Ints.calls kj10 _ _ t198 _ _ t218 true _ ?side1 ?side2 ?side3 ?side4 A35.out).mono ?_); (case side1 => repeat (first | exact (Kd.R_reads' HO_8.out).2.2 | (with_reducible refine Kd.C_alloc ?_ _) | (with_reducible refine Kd.C_drewN ?_ _) | (with_reducible refine Kd.C_drew ?_))); (case side2 => exact (Kd.R_reads' HO_8.out).2.1); (case side3 => repeat (first | exact (Kd.R_reads' HO220.out).2.2 | (with_reducible refine Kd.C_alloc ?_ _) | (with_reducible refine Kd.C_drewN ?_ _) | (with_reducible refine Kd.C_drew ?_))); (case side4 => exact (Kd.R_reads' HO220.out).2.1); rintro e w' ⟨rfl, ⟨nd, rfl⟩⟩; obtain ⟨Ao41, co41, eo41⟩ := Kd.V_slice HO_12.out; subst eo41))
                  go_meet
                  case rel => exact ⟨_, (((t204.length : Int) != (t218.length : Int))), (by first | rfl | (simp; done) | (simp [*]; done)), H', ⟨by have := HJ10.out; first | omega | exact Nat.le_refl _⟩, ⟨by (with_reducible repeat (first | apply Kd.N_alloc | apply Kd.N_drewN | apply Kd.N_drew)); exact Kd.N_mono HO_5.out (fun _ hk => ⟨hk.1.1.1, ⟨hk.1.2, hk.2⟩⟩)⟩, ⟨by (with_reducible repeat (first | apply Kd.R_alloc | apply Kd.R_drewN | apply Kd.R_drew)); exact HO_6.out⟩, ⟨by (with_reducible repeat (first | apply Kd.V_alloc | apply Kd.V_drewN | apply Kd.V_drew)); exact Kd.V_mono HO_12.out (fun _ hk => ⟨hk.1.1.1, ⟨hk.1.1.2.1, ⟨hk.1.2, hk.2⟩⟩⟩)⟩, ⟨by (with_reducible repeat (first | apply Kd.R_alloc | apply Kd.R_drewN | apply Kd.R_drew)); exact HO217.out⟩, ⟨by (with_reducible repeat (first | apply Kd.R_alloc | apply Kd.R_drewN | apply Kd.R_drew)); exact Kd.R_mono HO220.out (fun _ hk => trivial)⟩, ⟨by repeat (first | (with_reducible first | exact HB.out | apply below_alloc | apply pw_below_drewN | apply below_drew1) | exact HB.out)⟩⟩
                · replace c36 := Bool.eq_false_iff.mpr c36
                  subst c36
                  have H1 : (dolmenlaw14_CleanAsks.j1 kj10 l0 t191 t194 t202 t204 t215 t218 true) = some r := by rw [if_neg (show ¬ (false = true) by decide)] at H; exact H
                  clear H
                  have H := H1
                  clear H1
                  have H' := Aside0.mk H
                  clear H
                  obtain ⟨Ao42, co42, eo42⟩ := Kd.R_slice HO_6.out
                  subst eo42
                  obtain ⟨Ao43, co43, eo43⟩ := Kd.R_slice HO217.out
                  subst eo43
                  obtain ⟨Ao44, co44, eo44⟩ := Kd.R_slice HO_8.out
                  subst eo44
                  obtain ⟨Ao45, co45, eo45⟩ := Kd.R_slice HO220.out
                  subst eo45
                  go_wp2_with (first | (go_at_call 30; (with_reducible refine (dolmenref5_Ints.calls kj10 _ _ t198 _ _ t218 false _ ?side1 ?side2 ?side3 ?side4 A35.out).mono ?_); (case side1 => repeat (first | exact (Kd.R_reads' HO_8.out).2.2 | (with_reducible refine Kd.C_alloc ?_ _) | (with_reducible refine Kd.C_drewN ?_ _) | (with_reducible refine Kd.C_drew ?_))); (case side2 => exact (Kd.R_reads' HO_8.out).2.1); (case side3 => repeat (first | exact (Kd.R_reads' HO220.out).2.2 | (with_reducible refine Kd.C_alloc ?_ _) | (with_reducible refine Kd.C_drewN ?_ _) | (with_reducible refine Kd.C_drew ?_))); (case side4 => exact (Kd.R_reads' HO220.out).2.1); rintro e w' ⟨rfl, ⟨nd, rfl⟩⟩))
                  go_meet
                  case rel => exact ⟨_, (true), (by first | rfl | (simp; done) | (simp [*]; done)), H', ⟨by have := HJ10.out; first | omega | exact Nat.le_refl _⟩, ⟨by (with_reducible repeat (first | apply Kd.N_alloc | apply Kd.N_drewN | apply Kd.N_drew)); exact Kd.N_mono HO_5.out (fun _ hk => ⟨hk.1.1.1, ⟨hk.1.2, hk.2⟩⟩)⟩, ⟨by (with_reducible repeat (first | apply Kd.R_alloc | apply Kd.R_drewN | apply Kd.R_drew)); exact HO_6.out⟩, ⟨by (with_reducible repeat (first | apply Kd.V_alloc | apply Kd.V_drewN | apply Kd.V_drew)); exact Kd.V_mono HO_12.out (fun _ hk => ⟨hk.1.1.1, ⟨hk.1.1.2.1, ⟨hk.1.2, hk.2⟩⟩⟩)⟩, ⟨by (with_reducible repeat (first | apply Kd.R_alloc | apply Kd.R_drewN | apply Kd.R_drew)); exact HO217.out⟩, ⟨by (with_reducible repeat (first | apply Kd.R_alloc | apply Kd.R_drewN | apply Kd.R_drew)); exact Kd.R_mono HO220.out (fun _ hk => trivial)⟩, ⟨by repeat (first | (with_reducible first | exact HB.out | apply below_alloc | apply pw_below_drewN | apply below_drew1) | exact HB.out)⟩⟩
              · rw [if_neg c34] at H
                have c34b0 : ((t194.length : Int) == (t215.length : Int)) = false := beq_eq_false_iff_ne.mpr c34
                have c34b1 : ((t194.length : Int) != (t215.length : Int)) = true := bne_iff_ne.mpr c34
                have c34b2 : (t194.length == t215.length) = false := by first | simpa using c34 | (simp at c34 ⊢; omega)
                (first | rw [c34b0] | (simp only [i64_w, i32_w]; rw [c34b0]) | skip)
                have H' := Aside0.mk H
                clear H
                obtain ⟨Ao46, co46, eo46⟩ := Kd.R_slice HO_6.out
                subst eo46
                obtain ⟨Ao47, co47, eo47⟩ := Kd.R_slice HO217.out
                subst eo47
                go_wp2
                go_meet
                case rel => exact ⟨_, (true), (by first | rfl | (simp; done) | (simp [*]; done)), H', ⟨by have := HJ10.out; first | omega | exact Nat.le_refl _⟩, ⟨by (with_reducible repeat (first | apply Kd.N_alloc | apply Kd.N_drewN | apply Kd.N_drew)); exact Kd.N_mono HO_5.out (fun _ hk => ⟨hk.1.1.1, ⟨hk.1.2, hk.2⟩⟩)⟩, ⟨by (with_reducible repeat (first | apply Kd.R_alloc | apply Kd.R_drewN | apply Kd.R_drew)); exact HO_6.out⟩, ⟨by (with_reducible repeat (first | apply Kd.V_alloc | apply Kd.V_drewN | apply Kd.V_drew)); exact Kd.V_mono HO_12.out (fun _ hk => ⟨hk.1.1.1, ⟨hk.1.1.2.1, ⟨hk.1.2, hk.2⟩⟩⟩)⟩, ⟨by (with_reducible repeat (first | apply Kd.R_alloc | apply Kd.R_drewN | apply Kd.R_drew)); exact HO217.out⟩, ⟨by (with_reducible repeat (first | apply Kd.R_alloc | apply Kd.R_drewN | apply Kd.R_drew)); exact Kd.R_mono HO220.out (fun _ hk => trivial)⟩, ⟨by repeat (first | (with_reducible first | exact HB.out | apply below_alloc | apply pw_below_drewN | apply below_drew1) | exact HB.out)⟩⟩
            case rest =>
              clear HC31
              try clear c1
              try clear c2
              try clear p2
              try clear c3
              try clear c4
              try clear c8
              try clear c21
              try clear c21b0
              try clear c21b1
              try clear c23
              try clear c23b0
              try clear c23b1
              try clear c24
              try clear c25
              try clear c25b0
              try clear c25b1
              try clear c26
              try clear c27
              try clear c28
              try clear c28b0
              try clear c28b1
              try clear c29
              try clear c31
              try clear c32
              try clear c34
              try clear c34b0
              try clear c34b1
              try clear c34b2
              try clear c35
              try clear c36
              try clear p2
              obtain ⟨kq, x122_30, rfl, HA, HJ30, HO_5, HO_6, HO_12, HO_16, HO_17, HB⟩ := hcut
              cases kq with
              | zero => exact absurd HA.out (by simp [dolmenlaw14_CleanAsks.j1])
              | succ kj30 =>
                have H := HA.out
                clear HA
                simp only [dolmenlaw14_CleanAsks.j1] at H
                by_cases c48 : x122_30 = true
                · subst c48
                  have H1 : (some false) = some r := by rw [if_pos rfl] at H; exact H
                  clear H
                  have H := H1
                  clear H1
                  obtain rfl := Option.some.inj H
                  go_wp2
                  go_ret
                  exact ⟨by first | rfl | (simp [errW_none, errW_some] <;> rfl) | (simp [*, errW_none, errW_some] <;> rfl), by repeat (first | (with_reducible first | exact HB.out | apply below_alloc | apply pw_below_drewN | apply below_drew1) | exact HB.out)⟩
                · replace c48 := Bool.eq_false_iff.mpr c48
                  subst c48
                  have H1 : (dolmenlaw14_CleanAsks.l0 kj30 l0 t191 t194 t202 t204 t215 t218 0) = some r := by rw [if_neg (show ¬ (false = true) by decide)] at H; exact H
                  clear H
                  have H := H1
                  clear H1
                  have H' := Aside0.mk H
                  clear H
                  go_wp2
                  go_loopg [18] kj30 (fun kq v18 w' => ∃ (x18_3 : Int), v18 = .int .i64 x18_3 ∧ Aside0 (dolmenlaw14_CleanAsks.l0 kq l0 t191 t194 t202 t204 t215 t218 x18_3 = some r) ∧ Aside0 (kq ≤ kj30) ∧ Aside0 (Kd.N k50 50 w' w.heap.size (fun k_ => some k_ ≠ (v196 : Value).ownBlock ∧ some k_ ≠ (v216 : Value).ownBlock ∧ some k_ ≠ (v219 : Value).ownBlock) (.slice Ao14 t191.length co14) t191) ∧ Aside0 (Kd.R k64 64 w' w.heap.size (fun _ => True) v196 t194) ∧ Aside0 (Kd.V k50 50 w' w.heap.size (fun k_ => some k_ ≠ ((.slice Ao14 t191.length co14) : Value).ownBlock ∧ some k_ ≠ (v196 : Value).ownBlock ∧ some k_ ≠ (v216 : Value).ownBlock ∧ some k_ ≠ (v219 : Value).ownBlock) v205 t204) ∧ Aside0 (Kd.R k65 65 w' w.heap.size (fun _ => True) v216 t215) ∧ Aside0 (Kd.R (Kd.int .i64) 3 w' w.heap.size (fun _ => True) v219 t218) ∧ Aside0 (Below w.heap.size w w'))
                  case atStart => exact ⟨(0), (by first | rfl | (simp; done) | (simp [*]; done)), H', ⟨Nat.le_refl _⟩, ⟨by (with_reducible repeat (first | apply Kd.N_alloc | apply Kd.N_drewN | apply Kd.N_drew)); exact HO_5.out⟩, ⟨by (with_reducible repeat (first | apply Kd.R_alloc | apply Kd.R_drewN | apply Kd.R_drew)); exact HO_6.out⟩, ⟨by (with_reducible repeat (first | apply Kd.V_alloc | apply Kd.V_drewN | apply Kd.V_drew)); exact HO_12.out⟩, ⟨by (with_reducible repeat (first | apply Kd.R_alloc | apply Kd.R_drewN | apply Kd.R_drew)); exact HO_16.out⟩, ⟨by (with_reducible repeat (first | apply Kd.R_alloc | apply Kd.R_drewN | apply Kd.R_drew)); exact HO_17.out⟩, ⟨by repeat (first | (with_reducible first | exact HB.out | apply below_alloc | apply pw_below_drewN | apply below_drew1) | exact HB.out)⟩⟩
                  case round =>
                    clear H'
                    try clear c1
                    try clear c2
                    try clear p2
                    try clear c3
                    try clear c4
                    try clear c8
                    try clear c21
                    try clear c21b0
                    try clear c21b1
                    try clear c23
                    try clear c23b0
                    try clear c23b1
                    try clear c24
                    try clear c25
                    try clear c25b0
                    try clear c25b1
                    try clear c26
                    try clear c27
                    try clear c28
                    try clear c28b0
                    try clear c28b1
                    try clear c29
                    try clear c31
                    try clear c32
                    try clear c34
                    try clear c34b0
                    try clear c34b1
                    try clear c34b2
                    try clear c35
                    try clear c36
                    try clear c48
                    try clear p2
                    obtain ⟨x18_3, rfl, HA, HK3, HO_5, HO_6, HO_12, HO_16, HO_17, HB⟩ := hrel
                    cases gk with
                    | zero => exact absurd HA.out (by simp [dolmenlaw14_CleanAsks.l0])
                    | succ k3 =>
                      have H := HA.out
                      clear HA
                      simp only [dolmenlaw14_CleanAsks.l0] at H
                      by_cases c49 : x18_3 < (t194.length : Int)
                      · rw [if_pos c49] at H
                        have c49b0 : decide (x18_3 < (t194.length : Int)) = true := decide_eq_true c49
                        clear c49
                        by_cases c50 : 0 ≤ x18_3
                        · rw [if_pos c50] at H
                          have c50b0 : decide (0 ≤ x18_3) = true := decide_eq_true c50
                          clear c50
                          by_cases c51 : x18_3 < (t215.length : Int)
                          · rw [if_pos c51] at H
                            have c51b0 : decide (x18_3 < (t215.length : Int)) = true := decide_eq_true c51
                            clear c51
                            by_cases c52 : ((rd_T64 t194 x18_3).f0) = ((rd_T65 t215 x18_3).f0)
                            · rw [if_pos c52] at H
                              have c52b0 : (((rd_T64 t194 x18_3).f0) == ((rd_T65 t215 x18_3).f0)) = true := beq_iff_eq.mpr c52
                              have c52b1 : (((rd_T64 t194 x18_3).f0) != ((rd_T65 t215 x18_3).f0)) = false := bne_eq_false_iff_eq.mpr c52
                              clear c52
                              by_cases c53 : ((rd_T64 t194 x18_3).f1) = ((rd_T65 t215 x18_3).f1)
                              · rw [if_pos c53] at H
                                have c53b0 : (((rd_T64 t194 x18_3).f1) == ((rd_T65 t215 x18_3).f1)) = true := beq_iff_eq.mpr c53
                                have c53b1 : (((rd_T64 t194 x18_3).f1) != ((rd_T65 t215 x18_3).f1)) = false := bne_eq_false_iff_eq.mpr c53
                                clear c53
                                have H' := Aside0.mk H
                                clear H
                                obtain ⟨Ao54, co54, eo54⟩ := Kd.R_slice HO_6.out
                                subst eo54
                                try go_wp2
                                have n0_ := Aside0.mk (Kd.N_drew HO_5.out)
                                have n1_ := Aside0.mk (Kd.R_drew HO_6.out)
                                have n2_ := Aside0.mk (Kd.V_drew HO_12.out)
                                have n3_ := Aside0.mk (Kd.R_drew HO_16.out)
                                have n4_ := Aside0.mk (Kd.R_drew HO_17.out)
                                have n5_ := Aside0.mk (below_drew1 HB.out)
                                clear HO_5
                                clear HO_6
                                clear HO_12
                                clear HO_16
                                clear HO_17
                                clear HB
                                have HO_5 := n0_
                                have HO_6 := n1_
                                have HO_12 := n2_
                                have HO_16 := n3_
                                have HO_17 := n4_
                                have HB := n5_
                                clear n0_ n1_ n2_ n3_ n4_ n5_
                                have p222 : 0 ≤ (x18_3 : Int) := of_decide_eq_true (by first | (with_reducible assumption) | assumption)
                                have q222 : x18_3 < (t194.length : Int) := of_decide_eq_true (by first | (with_reducible assumption) | assumption)
                                obtain ⟨ad222, e222, hx222_0, hx222_1⟩ := at_T64 (Kd.R_reads' HO_6.out).2.2 x18_3 p222 q222
                                cases e222
                                replace p222 := eq_true p222
                                replace q222 := eq_true q222
                                obtain ⟨Ao56, co56, eo56⟩ := Kd.R_slice HO_16.out
                                (first | subst eo56 | (injection eo56 with f1_ f2_ f3_; have f4_ := f1_.symm; have f5_ := f3_.symm; clear f1_ f2_ f3_; subst f4_; subst f5_))
                                have p223 : 0 ≤ (x18_3 : Int) := of_decide_eq_true (by first | (with_reducible assumption) | assumption)
                                have q223 : x18_3 < (t215.length : Int) := of_decide_eq_true (by first | (with_reducible assumption) | assumption)
                                obtain ⟨ad223, e223, hx223_0, hx223_1⟩ := at_T65 (Kd.R_reads' HO_16.out).2.2 x18_3 p223 q223
                                cases e223
                                replace p223 := eq_true p223
                                replace q223 := eq_true q223
                                have p224 : 0 ≤ (x18_3 : Int) := of_decide_eq_true (by first | (with_reducible assumption) | assumption)
                                have q224 : x18_3 < (t194.length : Int) := of_decide_eq_true (by first | (with_reducible assumption) | assumption)
                                obtain ⟨ad224, e224, hx224_0, hx224_1⟩ := at_T64 (Kd.R_reads' HO_6.out).2.2 x18_3 p224 q224
                                obtain rfl : ad222 = ad224 := (by injection e224)
                                replace p224 := eq_true p224
                                replace q224 := eq_true q224
                                have p225 : 0 ≤ (x18_3 : Int) := of_decide_eq_true (by first | (with_reducible assumption) | assumption)
                                have q225 : x18_3 < (t215.length : Int) := of_decide_eq_true (by first | (with_reducible assumption) | assumption)
                                obtain ⟨ad225, e225, hx225_0, hx225_1⟩ := at_T65 (Kd.R_reads' HO_16.out).2.2 x18_3 p225 q225
                                obtain rfl : ad223 = ad225 := (by injection e225)
                                replace p225 := eq_true p225
                                replace q225 := eq_true q225
                                refine start_ (n := 24) (S := fun w' => w'.cell? (ad222.add ((x18_3).toNat * 2)) = some (.int .i64 ((rd_T64 t194 x18_3).f0)) ∧ w'.cell? ⟨(ad222.add ((x18_3).toNat * 2)).block, (ad222.add ((x18_3).toNat * 2)).off + 1, none⟩ = some (.int .i64 ((rd_T64 t194 x18_3).f1)) ∧ w'.cell? (ad223.add ((x18_3).toNat * 2)) = some (.int .i64 ((rd_T65 t215 x18_3).f0)) ∧ w'.cell? ⟨(ad223.add ((x18_3).toNat * 2)).block, (ad223.add ((x18_3).toNat * 2)).off + 1, none⟩ = some (.int .i64 ((rd_T65 t215 x18_3).f1)) ∧ w'.cell? (ad222.add ((x18_3).toNat * 2)) = some (.int .i64 ((rd_T64 t194 x18_3).f0)) ∧ w'.cell? ⟨(ad222.add ((x18_3).toNat * 2)).block, (ad222.add ((x18_3).toNat * 2)).off + 1, none⟩ = some (.int .i64 ((rd_T64 t194 x18_3).f1)) ∧ w'.cell? (ad223.add ((x18_3).toNat * 2)) = some (.int .i64 ((rd_T65 t215 x18_3).f0)) ∧ w'.cell? ⟨(ad223.add ((x18_3).toNat * 2)).block, (ad223.add ((x18_3).toNat * 2)).off + 1, none⟩ = some (.int .i64 ((rd_T65 t215 x18_3).f1))) (ds := []) #[false, false, false, false, false, false, false, false, false, false, false, false, false, false, false, false, false, false, false, false, false, false, false, false] (by kernel_rfl) rfl rfl ⟨hx222_0, hx222_1, hx223_0, hx223_1, hx224_0, hx224_1, hx225_0, hx225_1⟩ (fun hHeld => ?_); refine with_tabW dolmenlaw14_CleanAsks.tab20 dolmenlaw14_CleanAsks.bits20 (fun HT_ HW_ => ?_)
                                generalize wr.drew = w55 at HO_5 HO_6 HO_12 HO_16 HO_17 HB hx222_0 hx222_1 hx223_0 hx223_1 hx224_0 hx224_1 hx225_0 hx225_1 hHeld ⊢
                                refine pure_ (i := 0) (N := some 129) (v := ?_) (a' := ?_) #[true, false, false, false, false, false, false, false, false, false, false, false, false, false, false, false, false, false, false, false, false, false, false, false] rfl rfl (any_of HT_.out (by kernel_rfl)) (fun _ _ _ h => h) (Or.inl ⟨by rfl, ?_⟩) ?_ ?_
                                rotate_left
                                · intro w'
                                  go_simp
                                  with_reducible rfl
                                rotate_left
                                · simp only [Act.put, List.setIfInBounds_toArray, List.set_cons_zero, List.set_cons_succ, i64_w, i32_w]
                                  rfl
                                refine pure_ (i := 1) (N := some 130) (v := ?_) (a' := ?_) #[true, true, false, false, false, false, false, false, false, false, false, false, false, false, false, false, false, false, false, false, false, false, false, false] rfl rfl (any_of HT_.out (by kernel_rfl)) (fun _ _ _ h => h) (Or.inl ⟨by rfl, ?_⟩) ?_ ?_
                                rotate_left
                                · intro w'
                                  go_simp
                                  with_reducible rfl
                                rotate_left
                                · simp only [Act.put, List.setIfInBounds_toArray, List.set_cons_zero, List.set_cons_succ, i64_w, i32_w]
                                  rfl
                                refine pure_ (i := 2) (N := some 131) (v := ?_) (a' := ?_) #[true, true, true, false, false, false, false, false, false, false, false, false, false, false, false, false, false, false, false, false, false, false, false, false] rfl rfl (any_of HT_.out (by kernel_rfl)) (fun _ _ _ h => h) (Or.inl ⟨by rfl, ?_⟩) ?_ ?_
                                rotate_left
                                · intro w'
                                  go_simp
                                  with_reducible rfl
                                rotate_left
                                · simp only [Act.put, List.setIfInBounds_toArray, List.set_cons_zero, List.set_cons_succ, i64_w, i32_w]
                                  rfl
                                refine pure_ (i := 3) (N := some 132) (v := ?_) (a' := ?_) #[true, true, true, true, false, false, false, false, false, false, false, false, false, false, false, false, false, false, false, false, false, false, false, false] rfl rfl (any_of HT_.out (by kernel_rfl)) (fun _ _ _ h => h) (Or.inl ⟨by rfl, ?_⟩) ?_ ?_
                                rotate_left
                                · intro w'
                                  go_simp
                                  with_reducible rfl
                                rotate_left
                                · simp only [Act.put, List.setIfInBounds_toArray, List.set_cons_zero, List.set_cons_succ, i64_w, i32_w]
                                  rfl
                                refine pure_ (i := 5) (N := some 134) (v := ?_) (a' := ?_) #[true, true, true, true, false, true, false, false, false, false, false, false, false, false, false, false, false, false, false, false, false, false, false, false] rfl rfl (any_of HT_.out (by kernel_rfl)) (fun _ _ _ h => h) (Or.inl ⟨by rfl, ?_⟩) ?_ ?_
                                rotate_left
                                · intro w'
                                  go_simp
                                  with_reducible rfl
                                rotate_left
                                · simp only [Act.put, List.setIfInBounds_toArray, List.set_cons_zero, List.set_cons_succ, i64_w, i32_w]
                                  rfl
                                refine pure_ (i := 6) (N := some 135) (v := ?_) (a' := ?_) #[true, true, true, true, false, true, true, false, false, false, false, false, false, false, false, false, false, false, false, false, false, false, false, false] rfl rfl (any_of HT_.out (by kernel_rfl)) (fun _ _ _ h => h) (Or.inl ⟨by rfl, ?_⟩) ?_ ?_
                                rotate_left
                                · intro w'
                                  go_simp
                                  with_reducible rfl
                                rotate_left
                                · simp only [Act.put, List.setIfInBounds_toArray, List.set_cons_zero, List.set_cons_succ, i64_w, i32_w]
                                  rfl
                                refine pure_ (i := 7) (N := some 136) (v := ?_) (a' := ?_) #[true, true, true, true, false, true, true, true, false, false, false, false, false, false, false, false, false, false, false, false, false, false, false, false] rfl rfl (any_of HT_.out (by kernel_rfl)) (fun _ _ _ h => h) (Or.inl ⟨by rfl, ?_⟩) ?_ ?_
                                rotate_left
                                · intro w'
                                  go_simp
                                  with_reducible rfl
                                rotate_left
                                · simp only [Act.put, List.setIfInBounds_toArray, List.set_cons_zero, List.set_cons_succ, i64_w, i32_w]
                                  rfl
                                refine pure_ (i := 8) (N := some 137) (v := ?_) (a' := ?_) #[true, true, true, true, false, true, true, true, true, false, false, false, false, false, false, false, false, false, false, false, false, false, false, false] rfl rfl (any_of HT_.out (by kernel_rfl)) (fun _ _ _ h => h) (Or.inl ⟨by rfl, ?_⟩) ?_ ?_
                                rotate_left
                                · intro w'
                                  go_simp
                                  with_reducible rfl
                                rotate_left
                                · simp only [Act.put, List.setIfInBounds_toArray, List.set_cons_zero, List.set_cons_succ, i64_w, i32_w]
                                  rfl
                                refine take_ (i := 4) (N := some 133) (v := ?_) (a' := ?_) #[true, true, true, true, true, true, true, true, true, false, false, false, false, false, false, false, false, false, false, false, false, false, false, false] rfl rfl (take_ofW HT_.out HW_.out (by kernel_rfl)) (fun _ _ _ h => h) (Or.inl ⟨by rfl, ?_⟩) hHeld ?_ ?_
                                rotate_left
                                · rintro w' ⟨s0, s1, s2, s3, s4, s5, s6, s7⟩
                                  go_simp
                                  with_reducible rfl
                                rotate_left
                                · simp only [Act.put, List.setIfInBounds_toArray, List.set_cons_zero, List.set_cons_succ, i64_w, i32_w]
                                  rfl
                                refine take_ (i := 9) (N := some 138) (v := ?_) (a' := ?_) #[true, true, true, true, true, true, true, true, true, true, false, false, false, false, false, false, false, false, false, false, false, false, false, false] rfl rfl (take_ofW HT_.out HW_.out (by kernel_rfl)) (fun _ _ _ h => h) (Or.inl ⟨by rfl, ?_⟩) hHeld ?_ ?_
                                rotate_left
                                · rintro w' ⟨s0, s1, s2, s3, s4, s5, s6, s7⟩
                                  go_simp
                                  with_reducible rfl
                                rotate_left
                                · simp only [Act.put, List.setIfInBounds_toArray, List.set_cons_zero, List.set_cons_succ, i64_w, i32_w]
                                  rfl
                                refine pure_ (i := 10) (N := some 139) (v := ?_) (a' := ?_) #[true, true, true, true, true, true, true, true, true, true, true, false, false, false, false, false, false, false, false, false, false, false, false, false] rfl rfl (any_of HT_.out (by kernel_rfl)) (fun _ _ _ h => h) (Or.inl ⟨by rfl, ?_⟩) ?_ ?_
                                rotate_left
                                · intro w'
                                  go_simp
                                  with_reducible rfl
                                rotate_left
                                · simp only [Act.put, List.setIfInBounds_toArray, List.set_cons_zero, List.set_cons_succ, i64_w, i32_w]
                                  rfl
                                refine pure_ (i := 11) (N := some 140) (v := ?_) (a' := ?_) #[true, true, true, true, true, true, true, true, true, true, true, true, false, false, false, false, false, false, false, false, false, false, false, false] rfl rfl (any_of HT_.out (by kernel_rfl)) (fun _ _ _ h => h) (Or.inl ⟨by rfl, ?_⟩) ?_ ?_
                                rotate_left
                                · intro w'
                                  go_simp
                                  with_reducible rfl
                                rotate_left
                                · simp only [Act.put, List.setIfInBounds_toArray, List.set_cons_zero, List.set_cons_succ, i64_w, i32_w]
                                  rfl
                                refine pure_ (i := 12) (N := some 141) (v := ?_) (a' := ?_) #[true, true, true, true, true, true, true, true, true, true, true, true, true, false, false, false, false, false, false, false, false, false, false, false] rfl rfl (any_of HT_.out (by kernel_rfl)) (fun _ _ _ h => h) (Or.inl ⟨by rfl, ?_⟩) ?_ ?_
                                rotate_left
                                · intro w'
                                  go_simp
                                  with_reducible rfl
                                rotate_left
                                · simp only [Act.put, List.setIfInBounds_toArray, List.set_cons_zero, List.set_cons_succ, i64_w, i32_w]
                                  rfl
                                refine pure_ (i := 13) (N := some 142) (v := ?_) (a' := ?_) #[true, true, true, true, true, true, true, true, true, true, true, true, true, true, false, false, false, false, false, false, false, false, false, false] rfl rfl (any_of HT_.out (by kernel_rfl)) (fun _ _ _ h => h) (Or.inl ⟨by rfl, ?_⟩) ?_ ?_
                                rotate_left
                                · intro w'
                                  go_simp
                                  with_reducible rfl
                                rotate_left
                                · simp only [Act.put, List.setIfInBounds_toArray, List.set_cons_zero, List.set_cons_succ, i64_w, i32_w]
                                  rfl
                                refine pure_ (i := 14) (N := some 143) (v := ?_) (a' := ?_) #[true, true, true, true, true, true, true, true, true, true, true, true, true, true, true, false, false, false, false, false, false, false, false, false] rfl rfl (any_of HT_.out (by kernel_rfl)) (fun _ _ _ h => h) (Or.inl ⟨by rfl, ?_⟩) ?_ ?_
                                rotate_left
                                · intro w'
                                  go_simp
                                  with_reducible rfl
                                rotate_left
                                · simp only [Act.put, List.setIfInBounds_toArray, List.set_cons_zero, List.set_cons_succ, i64_w, i32_w]
                                  rfl
                                refine pure_ (i := 15) (N := some 144) (v := ?_) (a' := ?_) #[true, true, true, true, true, true, true, true, true, true, true, true, true, true, true, true, false, false, false, false, false, false, false, false] rfl rfl (any_of HT_.out (by kernel_rfl)) (fun _ _ _ h => h) (Or.inl ⟨by rfl, ?_⟩) ?_ ?_
                                rotate_left
                                · intro w'
                                  go_simp
                                  with_reducible rfl
                                rotate_left
                                · simp only [Act.put, List.setIfInBounds_toArray, List.set_cons_zero, List.set_cons_succ, i64_w, i32_w]
                                  rfl
                                refine pure_ (i := 17) (N := some 146) (v := ?_) (a' := ?_) #[true, true, true, true, true, true, true, true, true, true, true, true, true, true, true, true, false, true, false, false, false, false, false, false] rfl rfl (any_of HT_.out (by kernel_rfl)) (fun _ _ _ h => h) (Or.inl ⟨by rfl, ?_⟩) ?_ ?_
                                rotate_left
                                · intro w'
                                  go_simp
                                  with_reducible rfl
                                rotate_left
                                · simp only [Act.put, List.setIfInBounds_toArray, List.set_cons_zero, List.set_cons_succ, i64_w, i32_w]
                                  rfl
                                refine pure_ (i := 18) (N := some 147) (v := ?_) (a' := ?_) #[true, true, true, true, true, true, true, true, true, true, true, true, true, true, true, true, false, true, true, false, false, false, false, false] rfl rfl (any_of HT_.out (by kernel_rfl)) (fun _ _ _ h => h) (Or.inl ⟨by rfl, ?_⟩) ?_ ?_
                                rotate_left
                                · intro w'
                                  go_simp
                                  with_reducible rfl
                                rotate_left
                                · simp only [Act.put, List.setIfInBounds_toArray, List.set_cons_zero, List.set_cons_succ, i64_w, i32_w]
                                  rfl
                                refine pure_ (i := 19) (N := some 148) (v := ?_) (a' := ?_) #[true, true, true, true, true, true, true, true, true, true, true, true, true, true, true, true, false, true, true, true, false, false, false, false] rfl rfl (any_of HT_.out (by kernel_rfl)) (fun _ _ _ h => h) (Or.inl ⟨by rfl, ?_⟩) ?_ ?_
                                rotate_left
                                · intro w'
                                  go_simp
                                  with_reducible rfl
                                rotate_left
                                · simp only [Act.put, List.setIfInBounds_toArray, List.set_cons_zero, List.set_cons_succ, i64_w, i32_w]
                                  rfl
                                refine pure_ (i := 20) (N := some 149) (v := ?_) (a' := ?_) #[true, true, true, true, true, true, true, true, true, true, true, true, true, true, true, true, false, true, true, true, true, false, false, false] rfl rfl (any_of HT_.out (by kernel_rfl)) (fun _ _ _ h => h) (Or.inl ⟨by rfl, ?_⟩) ?_ ?_
                                rotate_left
                                · intro w'
                                  go_simp
                                  with_reducible rfl
                                rotate_left
                                · simp only [Act.put, List.setIfInBounds_toArray, List.set_cons_zero, List.set_cons_succ, i64_w, i32_w]
                                  rfl
                                refine take_ (i := 16) (N := some 145) (v := ?_) (a' := ?_) #[true, true, true, true, true, true, true, true, true, true, true, true, true, true, true, true, true, true, true, true, true, false, false, false] rfl rfl (take_ofW HT_.out HW_.out (by kernel_rfl)) (fun _ _ _ h => h) (Or.inl ⟨by rfl, ?_⟩) hHeld ?_ ?_
                                rotate_left
                                · rintro w' ⟨s0, s1, s2, s3, s4, s5, s6, s7⟩
                                  go_simp
                                  with_reducible rfl
                                rotate_left
                                · simp only [Act.put, List.setIfInBounds_toArray, List.set_cons_zero, List.set_cons_succ, i64_w, i32_w]
                                  rfl
                                refine take_ (i := 21) (N := some 150) (v := ?_) (a' := ?_) #[true, true, true, true, true, true, true, true, true, true, true, true, true, true, true, true, true, true, true, true, true, true, false, false] rfl rfl (take_ofW HT_.out HW_.out (by kernel_rfl)) (fun _ _ _ h => h) (Or.inl ⟨by rfl, ?_⟩) hHeld ?_ ?_
                                rotate_left
                                · rintro w' ⟨s0, s1, s2, s3, s4, s5, s6, s7⟩
                                  go_simp
                                  with_reducible rfl
                                rotate_left
                                · simp only [Act.put, List.setIfInBounds_toArray, List.set_cons_zero, List.set_cons_succ, i64_w, i32_w]
                                  rfl
                                refine pure_ (i := 22) (N := some 151) (v := ?_) (a' := ?_) #[true, true, true, true, true, true, true, true, true, true, true, true, true, true, true, true, true, true, true, true, true, true, true, false] rfl rfl (any_of HT_.out (by kernel_rfl)) (fun _ _ _ h => h) (Or.inl ⟨by rfl, ?_⟩) ?_ ?_
                                rotate_left
                                · intro w'
                                  go_simp
                                  with_reducible rfl
                                rotate_left
                                · simp only [Act.put, List.setIfInBounds_toArray, List.set_cons_zero, List.set_cons_succ, i64_w, i32_w]
                                  rfl
                                refine pure_ (i := 23) (N := some 152) (v := ?_) (a' := ?_) #[true, true, true, true, true, true, true, true, true, true, true, true, true, true, true, true, true, true, true, true, true, true, true, true] rfl rfl (any_of HT_.out (by kernel_rfl)) (fun _ _ _ h => h) (Or.inl ⟨by rfl, ?_⟩) ?_ ?_
                                rotate_left
                                · intro w'
                                  go_simp
                                  with_reducible rfl
                                rotate_left
                                · simp only [Act.put, List.setIfInBounds_toArray, List.set_cons_zero, List.set_cons_succ, i64_w, i32_w]
                                  rfl
                                refine done_ (done_of HT_.out (by kernel_rfl)) ?_
                                try go_wp2
                                go_roundg k3
                                case measure => have := HJ10.out; have := HJ30.out; have := HK3.out; omega
                                case rel => exact ⟨(wrap64 (x18_3 + 1)), (by first | rfl | (simp; done) | (simp [*]; done)), H', ⟨by have := HJ10.out; have := HJ30.out; have := HK3.out; omega⟩, ⟨by (with_reducible repeat (first | apply Kd.N_alloc | apply Kd.N_drewN | apply Kd.N_drew)); exact HO_5.out⟩, ⟨by (with_reducible repeat (first | apply Kd.R_alloc | apply Kd.R_drewN | apply Kd.R_drew)); exact HO_6.out⟩, ⟨by (with_reducible repeat (first | apply Kd.V_alloc | apply Kd.V_drewN | apply Kd.V_drew)); exact HO_12.out⟩, ⟨by (with_reducible repeat (first | apply Kd.R_alloc | apply Kd.R_drewN | apply Kd.R_drew)); exact HO_16.out⟩, ⟨by (with_reducible repeat (first | apply Kd.R_alloc | apply Kd.R_drewN | apply Kd.R_drew)); exact HO_17.out⟩, ⟨by repeat (first | (with_reducible first | exact HB.out | apply below_alloc | apply pw_below_drewN | apply below_drew1) | exact HB.out)⟩⟩
                              · rw [if_neg c53] at H
                                have c53b0 : (((rd_T64 t194 x18_3).f1) == ((rd_T65 t215 x18_3).f1)) = false := beq_eq_false_iff_ne.mpr c53
                                have c53b1 : (((rd_T64 t194 x18_3).f1) != ((rd_T65 t215 x18_3).f1)) = true := bne_iff_ne.mpr c53
                                obtain rfl := Option.some.inj H
                                obtain ⟨Ao57, co57, eo57⟩ := Kd.R_slice HO_6.out
                                subst eo57
                                try go_wp2
                                have n0_ := Aside0.mk (Kd.N_drew HO_5.out)
                                have n1_ := Aside0.mk (Kd.R_drew HO_6.out)
                                have n2_ := Aside0.mk (Kd.V_drew HO_12.out)
                                have n3_ := Aside0.mk (Kd.R_drew HO_16.out)
                                have n4_ := Aside0.mk (Kd.R_drew HO_17.out)
                                have n5_ := Aside0.mk (below_drew1 HB.out)
                                clear HO_5
                                clear HO_6
                                clear HO_12
                                clear HO_16
                                clear HO_17
                                clear HB
                                have HO_5 := n0_
                                have HO_6 := n1_
                                have HO_12 := n2_
                                have HO_16 := n3_
                                have HO_17 := n4_
                                have HB := n5_
                                clear n0_ n1_ n2_ n3_ n4_ n5_
                                have p222 : 0 ≤ (x18_3 : Int) := of_decide_eq_true (by first | (with_reducible assumption) | assumption)
                                have q222 : x18_3 < (t194.length : Int) := of_decide_eq_true (by first | (with_reducible assumption) | assumption)
                                obtain ⟨ad222, e222, hx222_0, hx222_1⟩ := at_T64 (Kd.R_reads' HO_6.out).2.2 x18_3 p222 q222
                                cases e222
                                replace p222 := eq_true p222
                                replace q222 := eq_true q222
                                obtain ⟨Ao59, co59, eo59⟩ := Kd.R_slice HO_16.out
                                (first | subst eo59 | (injection eo59 with f1_ f2_ f3_; have f4_ := f1_.symm; have f5_ := f3_.symm; clear f1_ f2_ f3_; subst f4_; subst f5_))
                                have p223 : 0 ≤ (x18_3 : Int) := of_decide_eq_true (by first | (with_reducible assumption) | assumption)
                                have q223 : x18_3 < (t215.length : Int) := of_decide_eq_true (by first | (with_reducible assumption) | assumption)
                                obtain ⟨ad223, e223, hx223_0, hx223_1⟩ := at_T65 (Kd.R_reads' HO_16.out).2.2 x18_3 p223 q223
                                cases e223
                                replace p223 := eq_true p223
                                replace q223 := eq_true q223
                                have p224 : 0 ≤ (x18_3 : Int) := of_decide_eq_true (by first | (with_reducible assumption) | assumption)
                                have q224 : x18_3 < (t194.length : Int) := of_decide_eq_true (by first | (with_reducible assumption) | assumption)
                                obtain ⟨ad224, e224, hx224_0, hx224_1⟩ := at_T64 (Kd.R_reads' HO_6.out).2.2 x18_3 p224 q224
                                obtain rfl : ad222 = ad224 := (by injection e224)
                                replace p224 := eq_true p224
                                replace q224 := eq_true q224
                                have p225 : 0 ≤ (x18_3 : Int) := of_decide_eq_true (by first | (with_reducible assumption) | assumption)
                                have q225 : x18_3 < (t215.length : Int) := of_decide_eq_true (by first | (with_reducible assumption) | assumption)
                                obtain ⟨ad225, e225, hx225_0, hx225_1⟩ := at_T65 (Kd.R_reads' HO_16.out).2.2 x18_3 p225 q225
                                obtain rfl : ad223 = ad225 := (by injection e225)
                                replace p225 := eq_true p225
                                replace q225 := eq_true q225
                                refine start_ (n := 24) (S := fun w' => w'.cell? (ad222.add ((x18_3).toNat * 2)) = some (.int .i64 ((rd_T64 t194 x18_3).f0)) ∧ w'.cell? ⟨(ad222.add ((x18_3).toNat * 2)).block, (ad222.add ((x18_3).toNat * 2)).off + 1, none⟩ = some (.int .i64 ((rd_T64 t194 x18_3).f1)) ∧ w'.cell? (ad223.add ((x18_3).toNat * 2)) = some (.int .i64 ((rd_T65 t215 x18_3).f0)) ∧ w'.cell? ⟨(ad223.add ((x18_3).toNat * 2)).block, (ad223.add ((x18_3).toNat * 2)).off + 1, none⟩ = some (.int .i64 ((rd_T65 t215 x18_3).f1)) ∧ w'.cell? (ad222.add ((x18_3).toNat * 2)) = some (.int .i64 ((rd_T64 t194 x18_3).f0)) ∧ w'.cell? ⟨(ad222.add ((x18_3).toNat * 2)).block, (ad222.add ((x18_3).toNat * 2)).off + 1, none⟩ = some (.int .i64 ((rd_T64 t194 x18_3).f1)) ∧ w'.cell? (ad223.add ((x18_3).toNat * 2)) = some (.int .i64 ((rd_T65 t215 x18_3).f0)) ∧ w'.cell? ⟨(ad223.add ((x18_3).toNat * 2)).block, (ad223.add ((x18_3).toNat * 2)).off + 1, none⟩ = some (.int .i64 ((rd_T65 t215 x18_3).f1))) (ds := []) #[false, false, false, false, false, false, false, false, false, false, false, false, false, false, false, false, false, false, false, false, false, false, false, false] (by kernel_rfl) rfl rfl ⟨hx222_0, hx222_1, hx223_0, hx223_1, hx224_0, hx224_1, hx225_0, hx225_1⟩ (fun hHeld => ?_); refine with_tabW dolmenlaw14_CleanAsks.tab20 dolmenlaw14_CleanAsks.bits20 (fun HT_ HW_ => ?_)
                                generalize wr.drew = w58 at HO_5 HO_6 HO_12 HO_16 HO_17 HB hx222_0 hx222_1 hx223_0 hx223_1 hx224_0 hx224_1 hx225_0 hx225_1 hHeld ⊢
                                refine pure_ (i := 0) (N := some 129) (v := ?_) (a' := ?_) #[true, false, false, false, false, false, false, false, false, false, false, false, false, false, false, false, false, false, false, false, false, false, false, false] rfl rfl (any_of HT_.out (by kernel_rfl)) (fun _ _ _ h => h) (Or.inl ⟨by rfl, ?_⟩) ?_ ?_
                                rotate_left
                                · intro w'
                                  go_simp
                                  with_reducible rfl
                                rotate_left
                                · simp only [Act.put, List.setIfInBounds_toArray, List.set_cons_zero, List.set_cons_succ, i64_w, i32_w]
                                  rfl
                                refine pure_ (i := 1) (N := some 130) (v := ?_) (a' := ?_) #[true, true, false, false, false, false, false, false, false, false, false, false, false, false, false, false, false, false, false, false, false, false, false, false] rfl rfl (any_of HT_.out (by kernel_rfl)) (fun _ _ _ h => h) (Or.inl ⟨by rfl, ?_⟩) ?_ ?_
                                rotate_left
                                · intro w'
                                  go_simp
                                  with_reducible rfl
                                rotate_left
                                · simp only [Act.put, List.setIfInBounds_toArray, List.set_cons_zero, List.set_cons_succ, i64_w, i32_w]
                                  rfl
                                refine pure_ (i := 2) (N := some 131) (v := ?_) (a' := ?_) #[true, true, true, false, false, false, false, false, false, false, false, false, false, false, false, false, false, false, false, false, false, false, false, false] rfl rfl (any_of HT_.out (by kernel_rfl)) (fun _ _ _ h => h) (Or.inl ⟨by rfl, ?_⟩) ?_ ?_
                                rotate_left
                                · intro w'
                                  go_simp
                                  with_reducible rfl
                                rotate_left
                                · simp only [Act.put, List.setIfInBounds_toArray, List.set_cons_zero, List.set_cons_succ, i64_w, i32_w]
                                  rfl
                                refine pure_ (i := 3) (N := some 132) (v := ?_) (a' := ?_) #[true, true, true, true, false, false, false, false, false, false, false, false, false, false, false, false, false, false, false, false, false, false, false, false] rfl rfl (any_of HT_.out (by kernel_rfl)) (fun _ _ _ h => h) (Or.inl ⟨by rfl, ?_⟩) ?_ ?_
                                rotate_left
                                · intro w'
                                  go_simp
                                  with_reducible rfl
                                rotate_left
                                · simp only [Act.put, List.setIfInBounds_toArray, List.set_cons_zero, List.set_cons_succ, i64_w, i32_w]
                                  rfl
                                refine pure_ (i := 5) (N := some 134) (v := ?_) (a' := ?_) #[true, true, true, true, false, true, false, false, false, false, false, false, false, false, false, false, false, false, false, false, false, false, false, false] rfl rfl (any_of HT_.out (by kernel_rfl)) (fun _ _ _ h => h) (Or.inl ⟨by rfl, ?_⟩) ?_ ?_
                                rotate_left
                                · intro w'
                                  go_simp
                                  with_reducible rfl
                                rotate_left
                                · simp only [Act.put, List.setIfInBounds_toArray, List.set_cons_zero, List.set_cons_succ, i64_w, i32_w]
                                  rfl
                                refine pure_ (i := 6) (N := some 135) (v := ?_) (a' := ?_) #[true, true, true, true, false, true, true, false, false, false, false, false, false, false, false, false, false, false, false, false, false, false, false, false] rfl rfl (any_of HT_.out (by kernel_rfl)) (fun _ _ _ h => h) (Or.inl ⟨by rfl, ?_⟩) ?_ ?_
                                rotate_left
                                · intro w'
                                  go_simp
                                  with_reducible rfl
                                rotate_left
                                · simp only [Act.put, List.setIfInBounds_toArray, List.set_cons_zero, List.set_cons_succ, i64_w, i32_w]
                                  rfl
                                refine pure_ (i := 7) (N := some 136) (v := ?_) (a' := ?_) #[true, true, true, true, false, true, true, true, false, false, false, false, false, false, false, false, false, false, false, false, false, false, false, false] rfl rfl (any_of HT_.out (by kernel_rfl)) (fun _ _ _ h => h) (Or.inl ⟨by rfl, ?_⟩) ?_ ?_
                                rotate_left
                                · intro w'
                                  go_simp
                                  with_reducible rfl
                                rotate_left
                                · simp only [Act.put, List.setIfInBounds_toArray, List.set_cons_zero, List.set_cons_succ, i64_w, i32_w]
                                  rfl
                                refine pure_ (i := 8) (N := some 137) (v := ?_) (a' := ?_) #[true, true, true, true, false, true, true, true, true, false, false, false, false, false, false, false, false, false, false, false, false, false, false, false] rfl rfl (any_of HT_.out (by kernel_rfl)) (fun _ _ _ h => h) (Or.inl ⟨by rfl, ?_⟩) ?_ ?_
                                rotate_left
                                · intro w'
                                  go_simp
                                  with_reducible rfl
                                rotate_left
                                · simp only [Act.put, List.setIfInBounds_toArray, List.set_cons_zero, List.set_cons_succ, i64_w, i32_w]
                                  rfl
                                refine take_ (i := 4) (N := some 133) (v := ?_) (a' := ?_) #[true, true, true, true, true, true, true, true, true, false, false, false, false, false, false, false, false, false, false, false, false, false, false, false] rfl rfl (take_ofW HT_.out HW_.out (by kernel_rfl)) (fun _ _ _ h => h) (Or.inl ⟨by rfl, ?_⟩) hHeld ?_ ?_
                                rotate_left
                                · rintro w' ⟨s0, s1, s2, s3, s4, s5, s6, s7⟩
                                  go_simp
                                  with_reducible rfl
                                rotate_left
                                · simp only [Act.put, List.setIfInBounds_toArray, List.set_cons_zero, List.set_cons_succ, i64_w, i32_w]
                                  rfl
                                refine take_ (i := 9) (N := some 138) (v := ?_) (a' := ?_) #[true, true, true, true, true, true, true, true, true, true, false, false, false, false, false, false, false, false, false, false, false, false, false, false] rfl rfl (take_ofW HT_.out HW_.out (by kernel_rfl)) (fun _ _ _ h => h) (Or.inl ⟨by rfl, ?_⟩) hHeld ?_ ?_
                                rotate_left
                                · rintro w' ⟨s0, s1, s2, s3, s4, s5, s6, s7⟩
                                  go_simp
                                  with_reducible rfl
                                rotate_left
                                · simp only [Act.put, List.setIfInBounds_toArray, List.set_cons_zero, List.set_cons_succ, i64_w, i32_w]
                                  rfl
                                refine pure_ (i := 10) (N := some 139) (v := ?_) (a' := ?_) #[true, true, true, true, true, true, true, true, true, true, true, false, false, false, false, false, false, false, false, false, false, false, false, false] rfl rfl (any_of HT_.out (by kernel_rfl)) (fun _ _ _ h => h) (Or.inl ⟨by rfl, ?_⟩) ?_ ?_
                                rotate_left
                                · intro w'
                                  go_simp
                                  with_reducible rfl
                                rotate_left
                                · simp only [Act.put, List.setIfInBounds_toArray, List.set_cons_zero, List.set_cons_succ, i64_w, i32_w]
                                  rfl
                                refine pure_ (i := 11) (N := some 140) (v := ?_) (a' := ?_) #[true, true, true, true, true, true, true, true, true, true, true, true, false, false, false, false, false, false, false, false, false, false, false, false] rfl rfl (any_of HT_.out (by kernel_rfl)) (fun _ _ _ h => h) (Or.inl ⟨by rfl, ?_⟩) ?_ ?_
                                rotate_left
                                · intro w'
                                  go_simp
                                  with_reducible rfl
                                rotate_left
                                · simp only [Act.put, List.setIfInBounds_toArray, List.set_cons_zero, List.set_cons_succ, i64_w, i32_w]
                                  rfl
                                refine pure_ (i := 12) (N := some 141) (v := ?_) (a' := ?_) #[true, true, true, true, true, true, true, true, true, true, true, true, true, false, false, false, false, false, false, false, false, false, false, false] rfl rfl (any_of HT_.out (by kernel_rfl)) (fun _ _ _ h => h) (Or.inl ⟨by rfl, ?_⟩) ?_ ?_
                                rotate_left
                                · intro w'
                                  go_simp
                                  with_reducible rfl
                                rotate_left
                                · simp only [Act.put, List.setIfInBounds_toArray, List.set_cons_zero, List.set_cons_succ, i64_w, i32_w]
                                  rfl
                                refine pure_ (i := 13) (N := some 142) (v := ?_) (a' := ?_) #[true, true, true, true, true, true, true, true, true, true, true, true, true, true, false, false, false, false, false, false, false, false, false, false] rfl rfl (any_of HT_.out (by kernel_rfl)) (fun _ _ _ h => h) (Or.inl ⟨by rfl, ?_⟩) ?_ ?_
                                rotate_left
                                · intro w'
                                  go_simp
                                  with_reducible rfl
                                rotate_left
                                · simp only [Act.put, List.setIfInBounds_toArray, List.set_cons_zero, List.set_cons_succ, i64_w, i32_w]
                                  rfl
                                refine pure_ (i := 14) (N := some 143) (v := ?_) (a' := ?_) #[true, true, true, true, true, true, true, true, true, true, true, true, true, true, true, false, false, false, false, false, false, false, false, false] rfl rfl (any_of HT_.out (by kernel_rfl)) (fun _ _ _ h => h) (Or.inl ⟨by rfl, ?_⟩) ?_ ?_
                                rotate_left
                                · intro w'
                                  go_simp
                                  with_reducible rfl
                                rotate_left
                                · simp only [Act.put, List.setIfInBounds_toArray, List.set_cons_zero, List.set_cons_succ, i64_w, i32_w]
                                  rfl
                                refine pure_ (i := 15) (N := some 144) (v := ?_) (a' := ?_) #[true, true, true, true, true, true, true, true, true, true, true, true, true, true, true, true, false, false, false, false, false, false, false, false] rfl rfl (any_of HT_.out (by kernel_rfl)) (fun _ _ _ h => h) (Or.inl ⟨by rfl, ?_⟩) ?_ ?_
                                rotate_left
                                · intro w'
                                  go_simp
                                  with_reducible rfl
                                rotate_left
                                · simp only [Act.put, List.setIfInBounds_toArray, List.set_cons_zero, List.set_cons_succ, i64_w, i32_w]
                                  rfl
                                refine pure_ (i := 17) (N := some 146) (v := ?_) (a' := ?_) #[true, true, true, true, true, true, true, true, true, true, true, true, true, true, true, true, false, true, false, false, false, false, false, false] rfl rfl (any_of HT_.out (by kernel_rfl)) (fun _ _ _ h => h) (Or.inl ⟨by rfl, ?_⟩) ?_ ?_
                                rotate_left
                                · intro w'
                                  go_simp
                                  with_reducible rfl
                                rotate_left
                                · simp only [Act.put, List.setIfInBounds_toArray, List.set_cons_zero, List.set_cons_succ, i64_w, i32_w]
                                  rfl
                                refine pure_ (i := 18) (N := some 147) (v := ?_) (a' := ?_) #[true, true, true, true, true, true, true, true, true, true, true, true, true, true, true, true, false, true, true, false, false, false, false, false] rfl rfl (any_of HT_.out (by kernel_rfl)) (fun _ _ _ h => h) (Or.inl ⟨by rfl, ?_⟩) ?_ ?_
                                rotate_left
                                · intro w'
                                  go_simp
                                  with_reducible rfl
                                rotate_left
                                · simp only [Act.put, List.setIfInBounds_toArray, List.set_cons_zero, List.set_cons_succ, i64_w, i32_w]
                                  rfl
                                refine pure_ (i := 19) (N := some 148) (v := ?_) (a' := ?_) #[true, true, true, true, true, true, true, true, true, true, true, true, true, true, true, true, false, true, true, true, false, false, false, false] rfl rfl (any_of HT_.out (by kernel_rfl)) (fun _ _ _ h => h) (Or.inl ⟨by rfl, ?_⟩) ?_ ?_
                                rotate_left
                                · intro w'
                                  go_simp
                                  with_reducible rfl
                                rotate_left
                                · simp only [Act.put, List.setIfInBounds_toArray, List.set_cons_zero, List.set_cons_succ, i64_w, i32_w]
                                  rfl
                                refine pure_ (i := 20) (N := some 149) (v := ?_) (a' := ?_) #[true, true, true, true, true, true, true, true, true, true, true, true, true, true, true, true, false, true, true, true, true, false, false, false] rfl rfl (any_of HT_.out (by kernel_rfl)) (fun _ _ _ h => h) (Or.inl ⟨by rfl, ?_⟩) ?_ ?_
                                rotate_left
                                · intro w'
                                  go_simp
                                  with_reducible rfl
                                rotate_left
                                · simp only [Act.put, List.setIfInBounds_toArray, List.set_cons_zero, List.set_cons_succ, i64_w, i32_w]
                                  rfl
                                refine take_ (i := 16) (N := some 145) (v := ?_) (a' := ?_) #[true, true, true, true, true, true, true, true, true, true, true, true, true, true, true, true, true, true, true, true, true, false, false, false] rfl rfl (take_ofW HT_.out HW_.out (by kernel_rfl)) (fun _ _ _ h => h) (Or.inl ⟨by rfl, ?_⟩) hHeld ?_ ?_
                                rotate_left
                                · rintro w' ⟨s0, s1, s2, s3, s4, s5, s6, s7⟩
                                  go_simp
                                  with_reducible rfl
                                rotate_left
                                · simp only [Act.put, List.setIfInBounds_toArray, List.set_cons_zero, List.set_cons_succ, i64_w, i32_w]
                                  rfl
                                refine take_ (i := 21) (N := some 150) (v := ?_) (a' := ?_) #[true, true, true, true, true, true, true, true, true, true, true, true, true, true, true, true, true, true, true, true, true, true, false, false] rfl rfl (take_ofW HT_.out HW_.out (by kernel_rfl)) (fun _ _ _ h => h) (Or.inl ⟨by rfl, ?_⟩) hHeld ?_ ?_
                                rotate_left
                                · rintro w' ⟨s0, s1, s2, s3, s4, s5, s6, s7⟩
                                  go_simp
                                  with_reducible rfl
                                rotate_left
                                · simp only [Act.put, List.setIfInBounds_toArray, List.set_cons_zero, List.set_cons_succ, i64_w, i32_w]
                                  rfl
                                refine pure_ (i := 22) (N := some 151) (v := ?_) (a' := ?_) #[true, true, true, true, true, true, true, true, true, true, true, true, true, true, true, true, true, true, true, true, true, true, true, false] rfl rfl (any_of HT_.out (by kernel_rfl)) (fun _ _ _ h => h) (Or.inl ⟨by rfl, ?_⟩) ?_ ?_
                                rotate_left
                                · intro w'
                                  go_simp
                                  with_reducible rfl
                                rotate_left
                                · simp only [Act.put, List.setIfInBounds_toArray, List.set_cons_zero, List.set_cons_succ, i64_w, i32_w]
                                  rfl
                                refine pure_ (i := 23) (N := some 152) (v := ?_) (a' := ?_) #[true, true, true, true, true, true, true, true, true, true, true, true, true, true, true, true, true, true, true, true, true, true, true, true] rfl rfl (any_of HT_.out (by kernel_rfl)) (fun _ _ _ h => h) (Or.inl ⟨by rfl, ?_⟩) ?_ ?_
                                rotate_left
                                · intro w'
                                  go_simp
                                  with_reducible rfl
                                rotate_left
                                · simp only [Act.put, List.setIfInBounds_toArray, List.set_cons_zero, List.set_cons_succ, i64_w, i32_w]
                                  rfl
                                refine done_ (done_of HT_.out (by kernel_rfl)) ?_
                                try go_wp2
                                go_ret
                                exact ⟨by first | rfl | (simp [errW_none, errW_some] <;> rfl) | (simp [*, errW_none, errW_some] <;> rfl), by repeat (first | (with_reducible first | exact HB.out | apply below_alloc | apply pw_below_drewN | apply below_drew1) | exact HB.out)⟩
                            · rw [if_neg c52] at H
                              have c52b0 : (((rd_T64 t194 x18_3).f0) == ((rd_T65 t215 x18_3).f0)) = false := beq_eq_false_iff_ne.mpr c52
                              have c52b1 : (((rd_T64 t194 x18_3).f0) != ((rd_T65 t215 x18_3).f0)) = true := bne_iff_ne.mpr c52
                              obtain rfl := Option.some.inj H
                              obtain ⟨Ao60, co60, eo60⟩ := Kd.R_slice HO_6.out
                              subst eo60
                              try go_wp2
                              have n0_ := Aside0.mk (Kd.N_drew HO_5.out)
                              have n1_ := Aside0.mk (Kd.R_drew HO_6.out)
                              have n2_ := Aside0.mk (Kd.V_drew HO_12.out)
                              have n3_ := Aside0.mk (Kd.R_drew HO_16.out)
                              have n4_ := Aside0.mk (Kd.R_drew HO_17.out)
                              have n5_ := Aside0.mk (below_drew1 HB.out)
                              clear HO_5
                              clear HO_6
                              clear HO_12
                              clear HO_16
                              clear HO_17
                              clear HB
                              have HO_5 := n0_
                              have HO_6 := n1_
                              have HO_12 := n2_
                              have HO_16 := n3_
                              have HO_17 := n4_
                              have HB := n5_
                              clear n0_ n1_ n2_ n3_ n4_ n5_
                              have p222 : 0 ≤ (x18_3 : Int) := of_decide_eq_true (by first | (with_reducible assumption) | assumption)
                              have q222 : x18_3 < (t194.length : Int) := of_decide_eq_true (by first | (with_reducible assumption) | assumption)
                              obtain ⟨ad222, e222, hx222_0, hx222_1⟩ := at_T64 (Kd.R_reads' HO_6.out).2.2 x18_3 p222 q222
                              cases e222
                              replace p222 := eq_true p222
                              replace q222 := eq_true q222
                              obtain ⟨Ao62, co62, eo62⟩ := Kd.R_slice HO_16.out
                              (first | subst eo62 | (injection eo62 with f1_ f2_ f3_; have f4_ := f1_.symm; have f5_ := f3_.symm; clear f1_ f2_ f3_; subst f4_; subst f5_))
                              have p223 : 0 ≤ (x18_3 : Int) := of_decide_eq_true (by first | (with_reducible assumption) | assumption)
                              have q223 : x18_3 < (t215.length : Int) := of_decide_eq_true (by first | (with_reducible assumption) | assumption)
                              obtain ⟨ad223, e223, hx223_0, hx223_1⟩ := at_T65 (Kd.R_reads' HO_16.out).2.2 x18_3 p223 q223
                              cases e223
                              replace p223 := eq_true p223
                              replace q223 := eq_true q223
                              refine start_ (n := 24) (S := fun w' => w'.cell? (ad222.add ((x18_3).toNat * 2)) = some (.int .i64 ((rd_T64 t194 x18_3).f0)) ∧ w'.cell? ⟨(ad222.add ((x18_3).toNat * 2)).block, (ad222.add ((x18_3).toNat * 2)).off + 1, none⟩ = some (.int .i64 ((rd_T64 t194 x18_3).f1)) ∧ w'.cell? (ad223.add ((x18_3).toNat * 2)) = some (.int .i64 ((rd_T65 t215 x18_3).f0)) ∧ w'.cell? ⟨(ad223.add ((x18_3).toNat * 2)).block, (ad223.add ((x18_3).toNat * 2)).off + 1, none⟩ = some (.int .i64 ((rd_T65 t215 x18_3).f1))) (ds := []) #[false, false, false, false, false, false, false, false, false, false, false, false, false, false, false, false, false, false, false, false, false, false, false, false] (by kernel_rfl) rfl rfl ⟨hx222_0, hx222_1, hx223_0, hx223_1⟩ (fun hHeld => ?_); refine with_tabW dolmenlaw14_CleanAsks.tab20 dolmenlaw14_CleanAsks.bits20 (fun HT_ HW_ => ?_)
                              generalize wr.drew = w61 at HO_5 HO_6 HO_12 HO_16 HO_17 HB hx222_0 hx222_1 hx223_0 hx223_1 hHeld ⊢
                              refine pure_ (i := 0) (N := some 129) (v := ?_) (a' := ?_) #[true, false, false, false, false, false, false, false, false, false, false, false, false, false, false, false, false, false, false, false, false, false, false, false] rfl rfl (any_of HT_.out (by kernel_rfl)) (fun _ _ _ h => h) (Or.inl ⟨by rfl, ?_⟩) ?_ ?_
                              rotate_left
                              · intro w'
                                go_simp
                                with_reducible rfl
                              rotate_left
                              · simp only [Act.put, List.setIfInBounds_toArray, List.set_cons_zero, List.set_cons_succ, i64_w, i32_w]
                                rfl
                              refine pure_ (i := 1) (N := some 130) (v := ?_) (a' := ?_) #[true, true, false, false, false, false, false, false, false, false, false, false, false, false, false, false, false, false, false, false, false, false, false, false] rfl rfl (any_of HT_.out (by kernel_rfl)) (fun _ _ _ h => h) (Or.inl ⟨by rfl, ?_⟩) ?_ ?_
                              rotate_left
                              · intro w'
                                go_simp
                                with_reducible rfl
                              rotate_left
                              · simp only [Act.put, List.setIfInBounds_toArray, List.set_cons_zero, List.set_cons_succ, i64_w, i32_w]
                                rfl
                              refine pure_ (i := 2) (N := some 131) (v := ?_) (a' := ?_) #[true, true, true, false, false, false, false, false, false, false, false, false, false, false, false, false, false, false, false, false, false, false, false, false] rfl rfl (any_of HT_.out (by kernel_rfl)) (fun _ _ _ h => h) (Or.inl ⟨by rfl, ?_⟩) ?_ ?_
                              rotate_left
                              · intro w'
                                go_simp
                                with_reducible rfl
                              rotate_left
                              · simp only [Act.put, List.setIfInBounds_toArray, List.set_cons_zero, List.set_cons_succ, i64_w, i32_w]
                                rfl
                              refine pure_ (i := 3) (N := some 132) (v := ?_) (a' := ?_) #[true, true, true, true, false, false, false, false, false, false, false, false, false, false, false, false, false, false, false, false, false, false, false, false] rfl rfl (any_of HT_.out (by kernel_rfl)) (fun _ _ _ h => h) (Or.inl ⟨by rfl, ?_⟩) ?_ ?_
                              rotate_left
                              · intro w'
                                go_simp
                                with_reducible rfl
                              rotate_left
                              · simp only [Act.put, List.setIfInBounds_toArray, List.set_cons_zero, List.set_cons_succ, i64_w, i32_w]
                                rfl
                              refine pure_ (i := 5) (N := some 134) (v := ?_) (a' := ?_) #[true, true, true, true, false, true, false, false, false, false, false, false, false, false, false, false, false, false, false, false, false, false, false, false] rfl rfl (any_of HT_.out (by kernel_rfl)) (fun _ _ _ h => h) (Or.inl ⟨by rfl, ?_⟩) ?_ ?_
                              rotate_left
                              · intro w'
                                go_simp
                                with_reducible rfl
                              rotate_left
                              · simp only [Act.put, List.setIfInBounds_toArray, List.set_cons_zero, List.set_cons_succ, i64_w, i32_w]
                                rfl
                              refine pure_ (i := 6) (N := some 135) (v := ?_) (a' := ?_) #[true, true, true, true, false, true, true, false, false, false, false, false, false, false, false, false, false, false, false, false, false, false, false, false] rfl rfl (any_of HT_.out (by kernel_rfl)) (fun _ _ _ h => h) (Or.inl ⟨by rfl, ?_⟩) ?_ ?_
                              rotate_left
                              · intro w'
                                go_simp
                                with_reducible rfl
                              rotate_left
                              · simp only [Act.put, List.setIfInBounds_toArray, List.set_cons_zero, List.set_cons_succ, i64_w, i32_w]
                                rfl
                              refine pure_ (i := 7) (N := some 136) (v := ?_) (a' := ?_) #[true, true, true, true, false, true, true, true, false, false, false, false, false, false, false, false, false, false, false, false, false, false, false, false] rfl rfl (any_of HT_.out (by kernel_rfl)) (fun _ _ _ h => h) (Or.inl ⟨by rfl, ?_⟩) ?_ ?_
                              rotate_left
                              · intro w'
                                go_simp
                                with_reducible rfl
                              rotate_left
                              · simp only [Act.put, List.setIfInBounds_toArray, List.set_cons_zero, List.set_cons_succ, i64_w, i32_w]
                                rfl
                              refine pure_ (i := 8) (N := some 137) (v := ?_) (a' := ?_) #[true, true, true, true, false, true, true, true, true, false, false, false, false, false, false, false, false, false, false, false, false, false, false, false] rfl rfl (any_of HT_.out (by kernel_rfl)) (fun _ _ _ h => h) (Or.inl ⟨by rfl, ?_⟩) ?_ ?_
                              rotate_left
                              · intro w'
                                go_simp
                                with_reducible rfl
                              rotate_left
                              · simp only [Act.put, List.setIfInBounds_toArray, List.set_cons_zero, List.set_cons_succ, i64_w, i32_w]
                                rfl
                              refine take_ (i := 4) (N := some 133) (v := ?_) (a' := ?_) #[true, true, true, true, true, true, true, true, true, false, false, false, false, false, false, false, false, false, false, false, false, false, false, false] rfl rfl (take_ofW HT_.out HW_.out (by kernel_rfl)) (fun _ _ _ h => h) (Or.inl ⟨by rfl, ?_⟩) hHeld ?_ ?_
                              rotate_left
                              · rintro w' ⟨s0, s1, s2, s3⟩
                                go_simp
                                with_reducible rfl
                              rotate_left
                              · simp only [Act.put, List.setIfInBounds_toArray, List.set_cons_zero, List.set_cons_succ, i64_w, i32_w]
                                rfl
                              refine take_ (i := 9) (N := some 138) (v := ?_) (a' := ?_) #[true, true, true, true, true, true, true, true, true, true, false, false, false, false, false, false, false, false, false, false, false, false, false, false] rfl rfl (take_ofW HT_.out HW_.out (by kernel_rfl)) (fun _ _ _ h => h) (Or.inl ⟨by rfl, ?_⟩) hHeld ?_ ?_
                              rotate_left
                              · rintro w' ⟨s0, s1, s2, s3⟩
                                go_simp
                                with_reducible rfl
                              rotate_left
                              · simp only [Act.put, List.setIfInBounds_toArray, List.set_cons_zero, List.set_cons_succ, i64_w, i32_w]
                                rfl
                              refine pure_ (i := 10) (N := some 139) (v := ?_) (a' := ?_) #[true, true, true, true, true, true, true, true, true, true, true, false, false, false, false, false, false, false, false, false, false, false, false, false] rfl rfl (any_of HT_.out (by kernel_rfl)) (fun _ _ _ h => h) (Or.inl ⟨by rfl, ?_⟩) ?_ ?_
                              rotate_left
                              · intro w'
                                go_simp
                                with_reducible rfl
                              rotate_left
                              · simp only [Act.put, List.setIfInBounds_toArray, List.set_cons_zero, List.set_cons_succ, i64_w, i32_w]
                                rfl
                              refine pure_ (i := 11) (N := some 140) (v := ?_) (a' := ?_) #[true, true, true, true, true, true, true, true, true, true, true, true, false, false, false, false, false, false, false, false, false, false, false, false] rfl rfl (any_of HT_.out (by kernel_rfl)) (fun _ _ _ h => h) (Or.inl ⟨by rfl, ?_⟩) ?_ ?_
                              rotate_left
                              · intro w'
                                go_simp
                                with_reducible rfl
                              rotate_left
                              · simp only [Act.put, List.setIfInBounds_toArray, List.set_cons_zero, List.set_cons_succ, i64_w, i32_w]
                                rfl
                              refine pure_ (i := 12) (N := some 141) (v := undef) (a' := ?_) #[true, true, true, true, true, true, true, true, true, true, true, true, true, false, false, false, false, false, false, false, false, false, false, false] rfl rfl (any_of HT_.out (by kernel_rfl)) (fun _ _ _ h => h) (Or.inr ⟨by rfl, rfl⟩) ?_ ?_
                              rotate_left
                              · simp only [Act.put, List.setIfInBounds_toArray, List.set_cons_zero, List.set_cons_succ, i64_w, i32_w]
                                rfl
                              refine pure_ (i := 13) (N := some 142) (v := undef) (a' := ?_) #[true, true, true, true, true, true, true, true, true, true, true, true, true, true, false, false, false, false, false, false, false, false, false, false] rfl rfl (any_of HT_.out (by kernel_rfl)) (fun _ _ _ h => h) (Or.inr ⟨by rfl, rfl⟩) ?_ ?_
                              rotate_left
                              · simp only [Act.put, List.setIfInBounds_toArray, List.set_cons_zero, List.set_cons_succ, i64_w, i32_w]
                                rfl
                              refine pure_ (i := 14) (N := some 143) (v := undef) (a' := ?_) #[true, true, true, true, true, true, true, true, true, true, true, true, true, true, true, false, false, false, false, false, false, false, false, false] rfl rfl (any_of HT_.out (by kernel_rfl)) (fun _ _ _ h => h) (Or.inr ⟨by rfl, rfl⟩) ?_ ?_
                              rotate_left
                              · simp only [Act.put, List.setIfInBounds_toArray, List.set_cons_zero, List.set_cons_succ, i64_w, i32_w]
                                rfl
                              refine pure_ (i := 15) (N := some 144) (v := undef) (a' := ?_) #[true, true, true, true, true, true, true, true, true, true, true, true, true, true, true, true, false, false, false, false, false, false, false, false] rfl rfl (any_of HT_.out (by kernel_rfl)) (fun _ _ _ h => h) (Or.inr ⟨by rfl, rfl⟩) ?_ ?_
                              rotate_left
                              · simp only [Act.put, List.setIfInBounds_toArray, List.set_cons_zero, List.set_cons_succ, i64_w, i32_w]
                                rfl
                              refine pure_ (i := 16) (N := some 145) (v := undef) (a' := ?_) #[true, true, true, true, true, true, true, true, true, true, true, true, true, true, true, true, true, false, false, false, false, false, false, false] rfl rfl (any_of HT_.out (by kernel_rfl)) (fun _ _ _ h => h) (Or.inr ⟨by rfl, rfl⟩) ?_ ?_
                              rotate_left
                              · simp only [Act.put, List.setIfInBounds_toArray, List.set_cons_zero, List.set_cons_succ, i64_w, i32_w]
                                rfl
                              refine pure_ (i := 17) (N := some 146) (v := undef) (a' := ?_) #[true, true, true, true, true, true, true, true, true, true, true, true, true, true, true, true, true, true, false, false, false, false, false, false] rfl rfl (any_of HT_.out (by kernel_rfl)) (fun _ _ _ h => h) (Or.inr ⟨by rfl, rfl⟩) ?_ ?_
                              rotate_left
                              · simp only [Act.put, List.setIfInBounds_toArray, List.set_cons_zero, List.set_cons_succ, i64_w, i32_w]
                                rfl
                              refine pure_ (i := 18) (N := some 147) (v := undef) (a' := ?_) #[true, true, true, true, true, true, true, true, true, true, true, true, true, true, true, true, true, true, true, false, false, false, false, false] rfl rfl (any_of HT_.out (by kernel_rfl)) (fun _ _ _ h => h) (Or.inr ⟨by rfl, rfl⟩) ?_ ?_
                              rotate_left
                              · simp only [Act.put, List.setIfInBounds_toArray, List.set_cons_zero, List.set_cons_succ, i64_w, i32_w]
                                rfl
                              refine pure_ (i := 19) (N := some 148) (v := undef) (a' := ?_) #[true, true, true, true, true, true, true, true, true, true, true, true, true, true, true, true, true, true, true, true, false, false, false, false] rfl rfl (any_of HT_.out (by kernel_rfl)) (fun _ _ _ h => h) (Or.inr ⟨by rfl, rfl⟩) ?_ ?_
                              rotate_left
                              · simp only [Act.put, List.setIfInBounds_toArray, List.set_cons_zero, List.set_cons_succ, i64_w, i32_w]
                                rfl
                              refine pure_ (i := 20) (N := some 149) (v := undef) (a' := ?_) #[true, true, true, true, true, true, true, true, true, true, true, true, true, true, true, true, true, true, true, true, true, false, false, false] rfl rfl (any_of HT_.out (by kernel_rfl)) (fun _ _ _ h => h) (Or.inr ⟨by rfl, rfl⟩) ?_ ?_
                              rotate_left
                              · simp only [Act.put, List.setIfInBounds_toArray, List.set_cons_zero, List.set_cons_succ, i64_w, i32_w]
                                rfl
                              refine pure_ (i := 21) (N := some 150) (v := undef) (a' := ?_) #[true, true, true, true, true, true, true, true, true, true, true, true, true, true, true, true, true, true, true, true, true, true, false, false] rfl rfl (any_of HT_.out (by kernel_rfl)) (fun _ _ _ h => h) (Or.inr ⟨by rfl, rfl⟩) ?_ ?_
                              rotate_left
                              · simp only [Act.put, List.setIfInBounds_toArray, List.set_cons_zero, List.set_cons_succ, i64_w, i32_w]
                                rfl
                              refine pure_ (i := 22) (N := some 151) (v := undef) (a' := ?_) #[true, true, true, true, true, true, true, true, true, true, true, true, true, true, true, true, true, true, true, true, true, true, true, false] rfl rfl (any_of HT_.out (by kernel_rfl)) (fun _ _ _ h => h) (Or.inr ⟨by rfl, rfl⟩) ?_ ?_
                              rotate_left
                              · simp only [Act.put, List.setIfInBounds_toArray, List.set_cons_zero, List.set_cons_succ, i64_w, i32_w]
                                rfl
                              refine pure_ (i := 23) (N := some 152) (v := ?_) (a' := ?_) #[true, true, true, true, true, true, true, true, true, true, true, true, true, true, true, true, true, true, true, true, true, true, true, true] rfl rfl (any_of HT_.out (by kernel_rfl)) (fun _ _ _ h => h) (Or.inl ⟨by rfl, ?_⟩) ?_ ?_
                              rotate_left
                              · intro w'
                                go_simp
                                with_reducible rfl
                              rotate_left
                              · simp only [Act.put, List.setIfInBounds_toArray, List.set_cons_zero, List.set_cons_succ, i64_w, i32_w]
                                rfl
                              refine done_ (done_of HT_.out (by kernel_rfl)) ?_
                              try go_wp2
                              go_ret
                              exact ⟨by first | rfl | (simp [errW_none, errW_some] <;> rfl) | (simp [*, errW_none, errW_some] <;> rfl), by repeat (first | (with_reducible first | exact HB.out | apply below_alloc | apply pw_below_drewN | apply below_drew1) | exact HB.out)⟩
                          · rw [if_neg c51] at H
                            exact absurd H (by simp)
                        · rw [if_neg c50] at H
                          exact absurd H (by simp)
                      · rw [if_neg c49] at H
                        have c49b0 : decide (x18_3 < (t194.length : Int)) = false := decide_eq_false c49
                        clear c49
                        have H' := Aside0.mk H
                        clear H
                        obtain ⟨Ao63, co63, eo63⟩ := Kd.R_slice HO_6.out
                        subst eo63
                        go_wp2
                        go_loopg [19] k3 (fun kq v19 w' => ∃ (x19_4 : Int), v19 = .int .i64 x19_4 ∧ Aside0 (dolmenlaw14_CleanAsks.l1 kq l0 t191 t202 t204 t218 x19_4 = some r) ∧ Aside0 (kq ≤ k3) ∧ Aside0 (Kd.N k50 50 w' w.heap.size (fun k_ => some k_ ≠ (v219 : Value).ownBlock) (.slice Ao14 t191.length co14) t191) ∧ Aside0 (Kd.V k50 50 w' w.heap.size (fun k_ => some k_ ≠ ((.slice Ao14 t191.length co14) : Value).ownBlock ∧ some k_ ≠ (v219 : Value).ownBlock) v205 t204) ∧ Aside0 (Kd.R (Kd.int .i64) 3 w' w.heap.size (fun _ => True) v219 t218) ∧ Aside0 (Below w.heap.size w w'))
                        case atStart => exact ⟨(0), (by first | rfl | (simp; done) | (simp [*]; done)), H', ⟨Nat.le_refl _⟩, ⟨by (with_reducible repeat (first | apply Kd.N_alloc | apply Kd.N_drewN | apply Kd.N_drew)); exact Kd.N_mono HO_5.out (fun _ hk => hk.2.2)⟩, ⟨by (with_reducible repeat (first | apply Kd.V_alloc | apply Kd.V_drewN | apply Kd.V_drew)); exact Kd.V_mono HO_12.out (fun _ hk => ⟨hk.1, hk.2.2.2⟩)⟩, ⟨by (with_reducible repeat (first | apply Kd.R_alloc | apply Kd.R_drewN | apply Kd.R_drew)); exact HO_17.out⟩, ⟨by repeat (first | (with_reducible first | exact HB.out | apply below_alloc | apply pw_below_drewN | apply below_drew1) | exact HB.out)⟩⟩
                        case round =>
                          clear H'
                          try clear p2
                          try clear q2
                          try clear hx2
                          try clear c4
                          try clear c5
                          try clear p6
                          try clear p22
                          try clear q22
                          try clear hx22
                          try clear c49
                          try clear c49b0
                          try clear c50
                          try clear c51
                          try clear c52
                          try clear c52b0
                          try clear c52b1
                          try clear c53
                          try clear c53b0
                          try clear c53b1
                          try clear hx222_0
                          try clear hx222_1
                          try clear hx223_0
                          try clear hx223_1
                          try clear hx224_0
                          try clear hx224_1
                          try clear hx225_0
                          try clear hx225_1
                          try clear p222
                          try clear p223
                          try clear p224
                          try clear p225
                          try clear q222
                          try clear q223
                          try clear q224
                          try clear q225
                          obtain ⟨x19_4, rfl, HA, HK4, HO_5, HO_12, HO_17, HB⟩ := hrel
                          cases gk with
                          | zero => exact absurd HA.out (by simp [dolmenlaw14_CleanAsks.l1])
                          | succ k4 =>
                            have H := HA.out
                            clear HA
                            simp only [dolmenlaw14_CleanAsks.l1] at H
                            by_cases c64 : x19_4 < (t218.length : Int)
                            · rw [if_pos c64] at H
                              have c64b0 : decide (x19_4 < (t218.length : Int)) = true := decide_eq_true c64
                              clear c64
                              by_cases c65 : 0 ≤ x19_4
                              · rw [if_pos c65] at H
                                have c65b0 : decide (0 ≤ x19_4) = true := decide_eq_true c65
                                clear c65
                                by_cases c66 : x19_4 < (t204.length : Int)
                                · rw [if_pos c66] at H
                                  have c66b0 : decide (x19_4 < (t204.length : Int)) = true := decide_eq_true c66
                                  clear c66
                                  by_cases c67 : 0 ≤ (rd t218 x19_4)
                                  · rw [if_pos c67] at H
                                    have c67b0 : decide (0 ≤ (rd t218 x19_4)) = true := decide_eq_true c67
                                    clear c67
                                    by_cases c68 : (rd t218 x19_4) < (t191.length : Int)
                                    · rw [if_pos c68] at H
                                      have c68b0 : decide ((rd t218 x19_4) < (t191.length : Int)) = true := decide_eq_true c68
                                      clear c68
                                      replace H := Option.bind_eq_some_iff.mp H
                                      obtain ⟨t229, A690, H⟩ := H
                                      replace H : (if t229 = true then (dolmenlaw14_CleanAsks.l1 k4 l0 t191 t202 t204 t218 (wrap64 (x19_4 + 1))) else (some false)) = some r := H
                                      have A69 := Aside0.mk A690
                                      clear A690
                                      by_cases c70 : t229 = true
                                      · subst c70
                                        have H1 : (dolmenlaw14_CleanAsks.l1 k4 l0 t191 t202 t204 t218 (wrap64 (x19_4 + 1))) = some r := by rw [if_pos rfl] at H; exact H
                                        clear H
                                        have H := H1
                                        clear H1
                                        have H' := Aside0.mk H
                                        clear H
                                        obtain ⟨Ao71, co71, eo71⟩ := Kd.R_slice HO_17.out
                                        subst eo71
                                        try go_wp2
                                        have n0_ := Aside0.mk (Kd.N_drew HO_5.out)
                                        have n1_ := Aside0.mk (Kd.V_drew HO_12.out)
                                        have n2_ := Aside0.mk (Kd.R_drew HO_17.out)
                                        have n3_ := Aside0.mk (below_drew1 HB.out)
                                        clear HO_5
                                        clear HO_12
                                        clear HO_17
                                        clear HB
                                        have HO_5 := n0_
                                        have HO_12 := n1_
                                        have HO_17 := n2_
                                        have HB := n3_
                                        clear n0_ n1_ n2_ n3_
                                        obtain ⟨Ao73, co73, eo73⟩ := Kd.V_slice HO_12.out
                                        (first | subst eo73 | (injection eo73 with f1_ f2_ f3_; have f4_ := f1_.symm; have f5_ := f3_.symm; clear f1_ f2_ f3_; subst f4_; subst f5_))
                                        have p226 : 0 ≤ (x19_4 : Int) := of_decide_eq_true (by first | (with_reducible assumption) | assumption)
                                        have q226 : x19_4 < (t204.length : Int) := of_decide_eq_true (by first | (with_reducible assumption) | assumption)
                                        obtain ⟨ad226, A226_3, c226_3, e226, hx226_0, hx226_1, hx226_2, hx226_3, hx226_4, hx226_5, hl226_3, hi226_3⟩ := at_T50 (Kd.V_reads' HO_12.out).2.2 x19_4 p226 q226
                                        cases e226
                                        obtain ⟨ce226, hce226, hMe226, hcc226⟩ := Kd.V_get HO_12.out z50 x19_4 p226 (by first | exact q226 | exact of_decide_eq_true (by first | (with_reducible assumption) | assumption) | (have e_ := (Kd.V_reads' HO_12.out).1; omega))
                                        obtain ⟨ua226_3, uc226_3, rfl, ul226_3, ge226_3⟩ := k50_openF hMe226
                                        have hv226_3 := hcc226 3 _ rfl
                                        rw [add_field _ _ 3 (by omega)] at hv226_3
                                        replace hv226_3 := Option.some.inj (hv226_3.symm.trans hx226_3)
                                        injection hv226_3 with hva_ hvn_ hvc_
                                        rw [hva_] at ge226_3
                                        rw [hvc_] at ul226_3
                                        have HL226_3 := Aside0.mk (show Kd.V (Kd.int .u8) 5 _ w.heap.size _ _ ((rd_T50 t204 x19_4).f3) from Kd.V_mk ul226_3 ge226_3)
                                        clear hva_ hvn_ hvc_ ge226_3 ul226_3
                                        clear hcc226 hce226
                                        have HR226_3 := Aside0.mk hi226_3
                                        have HC226_3 := Aside0.mk hl226_3
                                        clear hi226_3 hl226_3
                                        replace p226 := eq_true p226
                                        replace q226 := eq_true q226
                                        have p227 : 0 ≤ (x19_4 : Int) := of_decide_eq_true (by first | (with_reducible assumption) | assumption)
                                        have q227 : x19_4 < (t218.length : Int) := of_decide_eq_true (by first | (with_reducible assumption) | assumption)
                                        obtain ⟨ad227, e227, hx227_0⟩ := Kd.at_int (Kd.R_reads' HO_17.out).2.2 x19_4 p227 q227
                                        cases e227
                                        replace p227 := eq_true p227
                                        replace q227 := eq_true q227
                                        have p228 : 0 ≤ ((rd t218 x19_4) : Int) := of_decide_eq_true (by first | (with_reducible assumption) | assumption)
                                        have q228 : (rd t218 x19_4) < (t191.length : Int) := of_decide_eq_true (by first | (with_reducible assumption) | assumption)
                                        obtain ⟨ad228, A228_3, c228_3, e228, hx228_0, hx228_1, hx228_2, hx228_3, hx228_4, hx228_5, hl228_3, hi228_3⟩ := at_T50 (Kd.N_reads' HO_5.out).2.2 (rd t218 x19_4) p228 q228
                                        cases e228
                                        obtain ⟨ce228, hce228, hMe228, hcc228⟩ := Kd.N_get HO_5.out z50 (rd t218 x19_4) p228 (by first | exact q228 | exact of_decide_eq_true (by first | (with_reducible assumption) | assumption) | (have e_ := (Kd.N_reads' HO_5.out).1; omega))
                                        obtain ⟨ua228_3, uc228_3, rfl, ul228_3, ge228_3⟩ := k50_openF hMe228
                                        have hv228_3 := hcc228 3 _ rfl
                                        rw [add_field _ _ 3 (by omega)] at hv228_3
                                        replace hv228_3 := Option.some.inj (hv228_3.symm.trans hx228_3)
                                        injection hv228_3 with hva_ hvn_ hvc_
                                        rw [hva_] at ge228_3
                                        rw [hvc_] at ul228_3
                                        have HL228_3 := Aside0.mk (show Kd.V (Kd.int .u8) 5 _ w.heap.size _ _ ((rd_T50 t191 (rd t218 x19_4)).f3) from Kd.V_mk ul228_3 ge228_3)
                                        clear hva_ hvn_ hvc_ ge228_3 ul228_3
                                        clear hcc228 hce228
                                        have HR228_3 := Aside0.mk hi228_3
                                        have HC228_3 := Aside0.mk hl228_3
                                        clear hi228_3 hl228_3
                                        replace p228 := eq_true p228
                                        replace q228 := eq_true q228
                                        refine start_ (n := 13) (S := fun w' => w'.cell? (ad226.add ((x19_4).toNat * 6)) = some (.int .i64 ((rd_T50 t204 x19_4).f0)) ∧ w'.cell? ⟨(ad226.add ((x19_4).toNat * 6)).block, (ad226.add ((x19_4).toNat * 6)).off + 1, none⟩ = some (.int .i64 ((rd_T50 t204 x19_4).f1)) ∧ w'.cell? ⟨(ad226.add ((x19_4).toNat * 6)).block, (ad226.add ((x19_4).toNat * 6)).off + 2, none⟩ = some (.int .i64 ((rd_T50 t204 x19_4).f2)) ∧ w'.cell? ⟨(ad226.add ((x19_4).toNat * 6)).block, (ad226.add ((x19_4).toNat * 6)).off + 3, none⟩ = some (.slice A226_3 ((rd_T50 t204 x19_4).f3).length c226_3) ∧ w'.cell? ⟨(ad226.add ((x19_4).toNat * 6)).block, (ad226.add ((x19_4).toNat * 6)).off + 4, none⟩ = some (.string ((rd_T50 t204 x19_4).f4)) ∧ w'.cell? ⟨(ad226.add ((x19_4).toNat * 6)).block, (ad226.add ((x19_4).toNat * 6)).off + 5, none⟩ = some (.int .i64 ((rd_T50 t204 x19_4).f5)) ∧ w'.cell? (ad227.add (x19_4).toNat) = some (.int .i64 (rd t218 x19_4)) ∧ w'.cell? (ad228.add (((rd t218 x19_4)).toNat * 6)) = some (.int .i64 ((rd_T50 t191 (rd t218 x19_4)).f0)) ∧ w'.cell? ⟨(ad228.add (((rd t218 x19_4)).toNat * 6)).block, (ad228.add (((rd t218 x19_4)).toNat * 6)).off + 1, none⟩ = some (.int .i64 ((rd_T50 t191 (rd t218 x19_4)).f1)) ∧ w'.cell? ⟨(ad228.add (((rd t218 x19_4)).toNat * 6)).block, (ad228.add (((rd t218 x19_4)).toNat * 6)).off + 2, none⟩ = some (.int .i64 ((rd_T50 t191 (rd t218 x19_4)).f2)) ∧ w'.cell? ⟨(ad228.add (((rd t218 x19_4)).toNat * 6)).block, (ad228.add (((rd t218 x19_4)).toNat * 6)).off + 3, none⟩ = some (.slice A228_3 ((rd_T50 t191 (rd t218 x19_4)).f3).length c228_3) ∧ w'.cell? ⟨(ad228.add (((rd t218 x19_4)).toNat * 6)).block, (ad228.add (((rd t218 x19_4)).toNat * 6)).off + 4, none⟩ = some (.string ((rd_T50 t191 (rd t218 x19_4)).f4)) ∧ w'.cell? ⟨(ad228.add (((rd t218 x19_4)).toNat * 6)).block, (ad228.add (((rd t218 x19_4)).toNat * 6)).off + 5, none⟩ = some (.int .i64 ((rd_T50 t191 (rd t218 x19_4)).f5))) (ds := []) #[false, false, false, false, false, false, false, false, false, false, false, false, false] (by kernel_rfl) rfl rfl ⟨hx226_0, hx226_1, hx226_2, hx226_3, hx226_4, hx226_5, hx227_0, hx228_0, hx228_1, hx228_2, hx228_3, hx228_4, hx228_5⟩ (fun hHeld => ?_); refine with_tabW dolmenlaw14_CleanAsks.tab25 dolmenlaw14_CleanAsks.bits25 (fun HT_ HW_ => ?_)
                                        generalize wr.drew = w72 at HO_5 HO_12 HO_17 HB HL226_3 HL228_3 HR226_3 HR228_3 hx226_0 hx226_1 hx226_2 hx226_3 hx226_4 hx226_5 hx227_0 hx228_0 hx228_1 hx228_2 hx228_3 hx228_4 hx228_5 hHeld ⊢
                                        refine pure_ (i := 0) (N := some 159) (v := ?_) (a' := ?_) #[true, false, false, false, false, false, false, false, false, false, false, false, false] rfl rfl (any_of HT_.out (by kernel_rfl)) (fun _ _ _ h => h) (Or.inl ⟨by rfl, ?_⟩) ?_ ?_
                                        rotate_left
                                        · intro w'
                                          go_simp
                                          with_reducible rfl
                                        rotate_left
                                        · simp only [Act.put, List.setIfInBounds_toArray, List.set_cons_zero, List.set_cons_succ, i64_w, i32_w]
                                          rfl
                                        refine pure_ (i := 1) (N := some 160) (v := ?_) (a' := ?_) #[true, true, false, false, false, false, false, false, false, false, false, false, false] rfl rfl (any_of HT_.out (by kernel_rfl)) (fun _ _ _ h => h) (Or.inl ⟨by rfl, ?_⟩) ?_ ?_
                                        rotate_left
                                        · intro w'
                                          go_simp
                                          with_reducible rfl
                                        rotate_left
                                        · simp only [Act.put, List.setIfInBounds_toArray, List.set_cons_zero, List.set_cons_succ, i64_w, i32_w]
                                          rfl
                                        refine pure_ (i := 2) (N := some 161) (v := ?_) (a' := ?_) #[true, true, true, false, false, false, false, false, false, false, false, false, false] rfl rfl (any_of HT_.out (by kernel_rfl)) (fun _ _ _ h => h) (Or.inl ⟨by rfl, ?_⟩) ?_ ?_
                                        rotate_left
                                        · intro w'
                                          go_simp
                                          with_reducible rfl
                                        rotate_left
                                        · simp only [Act.put, List.setIfInBounds_toArray, List.set_cons_zero, List.set_cons_succ, i64_w, i32_w]
                                          rfl
                                        refine pure_ (i := 4) (N := some 163) (v := ?_) (a' := ?_) #[true, true, true, false, true, false, false, false, false, false, false, false, false] rfl rfl (any_of HT_.out (by kernel_rfl)) (fun _ _ _ h => h) (Or.inl ⟨by rfl, ?_⟩) ?_ ?_
                                        rotate_left
                                        · intro w'
                                          go_simp
                                          with_reducible rfl
                                        rotate_left
                                        · simp only [Act.put, List.setIfInBounds_toArray, List.set_cons_zero, List.set_cons_succ, i64_w, i32_w]
                                          rfl
                                        refine pure_ (i := 5) (N := some 164) (v := ?_) (a' := ?_) #[true, true, true, false, true, true, false, false, false, false, false, false, false] rfl rfl (any_of HT_.out (by kernel_rfl)) (fun _ _ _ h => h) (Or.inl ⟨by rfl, ?_⟩) ?_ ?_
                                        rotate_left
                                        · intro w'
                                          go_simp
                                          with_reducible rfl
                                        rotate_left
                                        · simp only [Act.put, List.setIfInBounds_toArray, List.set_cons_zero, List.set_cons_succ, i64_w, i32_w]
                                          rfl
                                        refine pure_ (i := 6) (N := some 165) (v := ?_) (a' := ?_) #[true, true, true, false, true, true, true, false, false, false, false, false, false] rfl rfl (any_of HT_.out (by kernel_rfl)) (fun _ _ _ h => h) (Or.inl ⟨by rfl, ?_⟩) ?_ ?_
                                        rotate_left
                                        · intro w'
                                          go_simp
                                          with_reducible rfl
                                        rotate_left
                                        · simp only [Act.put, List.setIfInBounds_toArray, List.set_cons_zero, List.set_cons_succ, i64_w, i32_w]
                                          rfl
                                        refine pure_ (i := 7) (N := some 166) (v := ?_) (a' := ?_) #[true, true, true, false, true, true, true, true, false, false, false, false, false] rfl rfl (any_of HT_.out (by kernel_rfl)) (fun _ _ _ h => h) (Or.inl ⟨by rfl, ?_⟩) ?_ ?_
                                        rotate_left
                                        · intro w'
                                          go_simp
                                          with_reducible rfl
                                        rotate_left
                                        · simp only [Act.put, List.setIfInBounds_toArray, List.set_cons_zero, List.set_cons_succ, i64_w, i32_w]
                                          rfl
                                        refine take_ (i := 3) (N := some 162) (v := ?_) (a' := ?_) #[true, true, true, true, true, true, true, true, false, false, false, false, false] rfl rfl (take_ofW HT_.out HW_.out (by kernel_rfl)) (fun _ _ _ h => h) (Or.inl ⟨by rfl, ?_⟩) hHeld ?_ ?_
                                        rotate_left
                                        · rintro w' ⟨s0, s1, s2, s3, s4, s5, s6, s7, s8, s9, s10, s11, s12⟩
                                          go_simp
                                          with_reducible rfl
                                        rotate_left
                                        · simp only [Act.put, List.setIfInBounds_toArray, List.set_cons_zero, List.set_cons_succ, i64_w, i32_w]
                                          rfl
                                        refine take_ (i := 8) (N := some 167) (v := ?_) (a' := ?_) #[true, true, true, true, true, true, true, true, true, false, false, false, false] rfl rfl (take_ofW HT_.out HW_.out (by kernel_rfl)) (fun _ _ _ h => h) (Or.inl ⟨by rfl, ?_⟩) hHeld ?_ ?_
                                        rotate_left
                                        · rintro w' ⟨s0, s1, s2, s3, s4, s5, s6, s7, s8, s9, s10, s11, s12⟩
                                          go_simp
                                          with_reducible rfl
                                        rotate_left
                                        · simp only [Act.put, List.setIfInBounds_toArray, List.set_cons_zero, List.set_cons_succ, i64_w, i32_w]
                                          rfl
                                        refine pure_ (i := 9) (N := some 168) (v := ?_) (a' := ?_) #[true, true, true, true, true, true, true, true, true, true, false, false, false] rfl rfl (any_of HT_.out (by kernel_rfl)) (fun _ _ _ h => h) (Or.inl ⟨by rfl, ?_⟩) ?_ ?_
                                        rotate_left
                                        · intro w'
                                          go_simp
                                          with_reducible rfl
                                        rotate_left
                                        · simp only [Act.put, List.setIfInBounds_toArray, List.set_cons_zero, List.set_cons_succ, i64_w, i32_w]
                                          rfl
                                        refine take_ (i := 10) (N := some 169) (v := ?_) (a' := ?_) #[true, true, true, true, true, true, true, true, true, true, true, false, false] rfl rfl (take_ofW HT_.out HW_.out (by kernel_rfl)) (fun _ _ _ h => h) (Or.inl ⟨by rfl, ?_⟩) hHeld ?_ ?_
                                        rotate_left
                                        · rintro w' ⟨s0, s1, s2, s3, s4, s5, s6, s7, s8, s9, s10, s11, s12⟩
                                          go_simp
                                          with_reducible rfl
                                        rotate_left
                                        · simp only [Act.put, List.setIfInBounds_toArray, List.set_cons_zero, List.set_cons_succ, i64_w, i32_w]
                                          rfl
                                        refine one_ (i := 11) (N := some 170) #[true, true, true, true, true, true, true, true, true, true, true, true, false] rfl rfl (one_of HT_.out (by kernel_rfl)) (by decide) (fun K hK => ?_)
                                        refine goes_ Try.func36 (by kernel_rfl) rfl #[.agg #[.int .i64 ((rd_T50 t204 x19_4).f0), .int .i64 ((rd_T50 t204 x19_4).f1), .int .i64 ((rd_T50 t204 x19_4).f2), .slice A226_3 ((rd_T50 t204 x19_4).f3).length c226_3, .string ((rd_T50 t204 x19_4).f4), .int .i64 ((rd_T50 t204 x19_4).f5)], .agg #[.int .i64 ((rd_T50 t191 (rd t218 x19_4)).f0), .int .i64 ((rd_T50 t191 (rd t218 x19_4)).f1), .int .i64 ((rd_T50 t191 (rd t218 x19_4)).f2), .slice A228_3 ((rd_T50 t191 (rd t218 x19_4)).f3).length c228_3, .string ((rd_T50 t191 (rd t218 x19_4)).f4), .int .i64 ((rd_T50 t191 (rd t218 x19_4)).f5)]] (by rfl) rfl rfl (by (try simp only [List.map_toArray, List.map_cons, List.map_nil]); first | done | rfl | (simp only [List.length_drop, List.length_take]; rfl)) ?_
                                        with_reducible refine (entry_Same.calls k4 ((rd_T50 t204 x19_4).f0) ((rd_T50 t204 x19_4).f1) ((rd_T50 t204 x19_4).f2) _ _ ((rd_T50 t204 x19_4).f3) ((rd_T50 t204 x19_4).f4) ((rd_T50 t204 x19_4).f5) ((rd_T50 t191 (rd t218 x19_4)).f0) ((rd_T50 t191 (rd t218 x19_4)).f1) ((rd_T50 t191 (rd t218 x19_4)).f2) _ _ ((rd_T50 t191 (rd t218 x19_4)).f3) ((rd_T50 t191 (rd t218 x19_4)).f4) ((rd_T50 t191 (rd t218 x19_4)).f5) true _ ?side1 ?side2 ?side3 ?side4 A69.out).mono ?_
                                        (case side1 => repeat (first | exact (by repeat (first | (with_reducible exact HR226_3.out) | (with_reducible refine Kd.C_alloc ?_ _) | (with_reducible refine Kd.C_drewN ?_ _) | (with_reducible refine Kd.C_drew ?_) | exact HR226_3.out)) | (with_reducible refine Kd.C_alloc ?_ _) | (with_reducible refine Kd.C_drewN ?_ _) | (with_reducible refine Kd.C_drew ?_)))
                                        (case side2 => exact HC226_3.out)
                                        (case side3 => repeat (first | exact (by repeat (first | (with_reducible exact HR228_3.out) | (with_reducible refine Kd.C_alloc ?_ _) | (with_reducible refine Kd.C_drewN ?_ _) | (with_reducible refine Kd.C_drew ?_) | exact HR228_3.out)) | (with_reducible refine Kd.C_alloc ?_ _) | (with_reducible refine Kd.C_drewN ?_ _) | (with_reducible refine Kd.C_drew ?_)))
                                        (case side4 => exact HC228_3.out)
                                        rintro e w74 ⟨rfl, hb⟩
                                        have HS0_ := (hb.cell (World.block_lt_of_cell? _ _ (hHeld.1))).trans (hHeld.1)
                                        have HS1_ := (hb.cell (World.block_lt_of_cell? _ _ (hHeld.2.1))).trans (hHeld.2.1)
                                        have HS2_ := (hb.cell (World.block_lt_of_cell? _ _ (hHeld.2.2.1))).trans (hHeld.2.2.1)
                                        have HS3_ := (hb.cell (World.block_lt_of_cell? _ _ (hHeld.2.2.2.1))).trans (hHeld.2.2.2.1)
                                        have HS4_ := (hb.cell (World.block_lt_of_cell? _ _ (hHeld.2.2.2.2.1))).trans (hHeld.2.2.2.2.1)
                                        have HS5_ := (hb.cell (World.block_lt_of_cell? _ _ (hHeld.2.2.2.2.2.1))).trans (hHeld.2.2.2.2.2.1)
                                        have HS6_ := (hb.cell (World.block_lt_of_cell? _ _ (hHeld.2.2.2.2.2.2.1))).trans (hHeld.2.2.2.2.2.2.1)
                                        have HS7_ := (hb.cell (World.block_lt_of_cell? _ _ (hHeld.2.2.2.2.2.2.2.1))).trans (hHeld.2.2.2.2.2.2.2.1)
                                        have HS8_ := (hb.cell (World.block_lt_of_cell? _ _ (hHeld.2.2.2.2.2.2.2.2.1))).trans (hHeld.2.2.2.2.2.2.2.2.1)
                                        have HS9_ := (hb.cell (World.block_lt_of_cell? _ _ (hHeld.2.2.2.2.2.2.2.2.2.1))).trans (hHeld.2.2.2.2.2.2.2.2.2.1)
                                        have HS10_ := (hb.cell (World.block_lt_of_cell? _ _ (hHeld.2.2.2.2.2.2.2.2.2.2.1))).trans (hHeld.2.2.2.2.2.2.2.2.2.2.1)
                                        have HS11_ := (hb.cell (World.block_lt_of_cell? _ _ (hHeld.2.2.2.2.2.2.2.2.2.2.2.1))).trans (hHeld.2.2.2.2.2.2.2.2.2.2.2.1)
                                        have HS12_ := (hb.cell (World.block_lt_of_cell? _ _ (hHeld.2.2.2.2.2.2.2.2.2.2.2.2))).trans (hHeld.2.2.2.2.2.2.2.2.2.2.2.2)
                                        refine ⟨_, rfl, ?_⟩
                                        have n0_ := Aside0.mk (Kd.N_below (by (with_reducible repeat (first | apply Kd.N_alloc | apply Kd.N_drewN | apply Kd.N_drew)); exact HO_5.out) hb)
                                        have n1_ := Aside0.mk (Kd.V_below (by (with_reducible repeat (first | apply Kd.V_alloc | apply Kd.V_drewN | apply Kd.V_drew)); exact HO_12.out) hb)
                                        have n2_ := Aside0.mk (Kd.R_below (by (with_reducible repeat (first | apply Kd.R_alloc | apply Kd.R_drewN | apply Kd.R_drew)); exact HO_17.out) hb)
                                        have n3_ := Aside0.mk (Kd.V_below (by (with_reducible repeat (first | apply Kd.V_alloc | apply Kd.V_drewN | apply Kd.V_drew)); exact HL226_3.out) hb)
                                        have n4_ := Aside0.mk (Kd.V_below (by (with_reducible repeat (first | apply Kd.V_alloc | apply Kd.V_drewN | apply Kd.V_drew)); exact HL228_3.out) hb)
                                        have n5_ := Aside0.mk (Kd.C_below (by repeat (first | (with_reducible exact HR226_3.out) | (with_reducible refine Kd.C_alloc ?_ _) | (with_reducible refine Kd.C_drewN ?_ _) | (with_reducible refine Kd.C_drew ?_) | exact HR226_3.out)) hb)
                                        have n6_ := Aside0.mk (Kd.C_below (by repeat (first | (with_reducible exact HR228_3.out) | (with_reducible refine Kd.C_alloc ?_ _) | (with_reducible refine Kd.C_drewN ?_ _) | (with_reducible refine Kd.C_drew ?_) | exact HR228_3.out)) hb)
                                        have n7_ := Aside0.mk (below_step (by repeat (first | (with_reducible first | exact HB.out | apply below_alloc | apply pw_below_drewN | apply below_drew1) | exact HB.out)) hb)
                                        clear HO_5
                                        clear HO_12
                                        clear HO_17
                                        clear HL226_3
                                        clear HL228_3
                                        clear HR226_3
                                        clear HR228_3
                                        clear HB
                                        have HO_5 := n0_
                                        have HO_12 := n1_
                                        have HO_17 := n2_
                                        have HL226_3 := n3_
                                        have HL228_3 := n4_
                                        have HR226_3 := n5_
                                        have HR228_3 := n6_
                                        have HB := n7_
                                        clear n0_ n1_ n2_ n3_ n4_ n5_ n6_ n7_
                                        (try clear hb)
                                        (try clear hb2)
                                        (try clear hk)
                                        (try clear hi)
                                        refine hK.out _ _ ⟨HS0_, HS1_, HS2_, HS3_, HS4_, HS5_, HS6_, HS7_, HS8_, HS9_, HS10_, HS11_, HS12_⟩ (fun hHeld => ?_)
                                        clear hK K
                                        refine norm_ (a' := ?_) ?_ ?_
                                        rotate_left
                                        · show Act.put _ (some 170) _ = _
                                          simp only [Act.put, List.setIfInBounds_toArray, List.set_cons_zero, List.set_cons_succ, i64_w, i32_w]
                                          rfl
                                        refine pure_ (i := 12) (N := some 171) (v := ?_) (a' := ?_) #[true, true, true, true, true, true, true, true, true, true, true, true, true] rfl rfl (any_of HT_.out (by kernel_rfl)) (fun _ _ _ h => h) (Or.inl ⟨by rfl, ?_⟩) ?_ ?_
                                        rotate_left
                                        · intro w'
                                          go_simp
                                          with_reducible rfl
                                        rotate_left
                                        · simp only [Act.put, List.setIfInBounds_toArray, List.set_cons_zero, List.set_cons_succ, i64_w, i32_w]
                                          rfl
                                        refine done_ (done_of HT_.out (by kernel_rfl)) ?_
                                        try go_wp2
                                        go_roundg k4
                                        case measure => have := HJ10.out; have := HJ30.out; have := HK3.out; have := HK4.out; omega
                                        case rel => exact ⟨(wrap64 (x19_4 + 1)), (by first | rfl | (simp; done) | (simp [*]; done)), H', ⟨by have := HJ10.out; have := HJ30.out; have := HK3.out; have := HK4.out; omega⟩, ⟨by (with_reducible repeat (first | apply Kd.N_alloc | apply Kd.N_drewN | apply Kd.N_drew)); exact HO_5.out⟩, ⟨by (with_reducible repeat (first | apply Kd.V_alloc | apply Kd.V_drewN | apply Kd.V_drew)); exact HO_12.out⟩, ⟨by (with_reducible repeat (first | apply Kd.R_alloc | apply Kd.R_drewN | apply Kd.R_drew)); exact HO_17.out⟩, ⟨by repeat (first | (with_reducible first | exact HB.out | apply below_alloc | apply pw_below_drewN | apply below_drew1) | exact HB.out)⟩⟩
                                      · replace c70 := Bool.eq_false_iff.mpr c70
                                        subst c70
                                        have H1 : (some false) = some r := by rw [if_neg (show ¬ (false = true) by decide)] at H; exact H
                                        clear H
                                        have H := H1
                                        clear H1
                                        obtain rfl := Option.some.inj H
                                        obtain ⟨Ao75, co75, eo75⟩ := Kd.R_slice HO_17.out
                                        subst eo75
                                        try go_wp2
                                        have n0_ := Aside0.mk (Kd.N_drew HO_5.out)
                                        have n1_ := Aside0.mk (Kd.V_drew HO_12.out)
                                        have n2_ := Aside0.mk (Kd.R_drew HO_17.out)
                                        have n3_ := Aside0.mk (below_drew1 HB.out)
                                        clear HO_5
                                        clear HO_12
                                        clear HO_17
                                        clear HB
                                        have HO_5 := n0_
                                        have HO_12 := n1_
                                        have HO_17 := n2_
                                        have HB := n3_
                                        clear n0_ n1_ n2_ n3_
                                        obtain ⟨Ao77, co77, eo77⟩ := Kd.V_slice HO_12.out
                                        (first | subst eo77 | (injection eo77 with f1_ f2_ f3_; have f4_ := f1_.symm; have f5_ := f3_.symm; clear f1_ f2_ f3_; subst f4_; subst f5_))
                                        have p226 : 0 ≤ (x19_4 : Int) := of_decide_eq_true (by first | (with_reducible assumption) | assumption)
                                        have q226 : x19_4 < (t204.length : Int) := of_decide_eq_true (by first | (with_reducible assumption) | assumption)
                                        obtain ⟨ad226, A226_3, c226_3, e226, hx226_0, hx226_1, hx226_2, hx226_3, hx226_4, hx226_5, hl226_3, hi226_3⟩ := at_T50 (Kd.V_reads' HO_12.out).2.2 x19_4 p226 q226
                                        cases e226
                                        obtain ⟨ce226, hce226, hMe226, hcc226⟩ := Kd.V_get HO_12.out z50 x19_4 p226 (by first | exact q226 | exact of_decide_eq_true (by first | (with_reducible assumption) | assumption) | (have e_ := (Kd.V_reads' HO_12.out).1; omega))
                                        obtain ⟨ua226_3, uc226_3, rfl, ul226_3, ge226_3⟩ := k50_openF hMe226
                                        have hv226_3 := hcc226 3 _ rfl
                                        rw [add_field _ _ 3 (by omega)] at hv226_3
                                        replace hv226_3 := Option.some.inj (hv226_3.symm.trans hx226_3)
                                        injection hv226_3 with hva_ hvn_ hvc_
                                        rw [hva_] at ge226_3
                                        rw [hvc_] at ul226_3
                                        have HL226_3 := Aside0.mk (show Kd.V (Kd.int .u8) 5 _ w.heap.size _ _ ((rd_T50 t204 x19_4).f3) from Kd.V_mk ul226_3 ge226_3)
                                        clear hva_ hvn_ hvc_ ge226_3 ul226_3
                                        clear hcc226 hce226
                                        have HR226_3 := Aside0.mk hi226_3
                                        have HC226_3 := Aside0.mk hl226_3
                                        clear hi226_3 hl226_3
                                        replace p226 := eq_true p226
                                        replace q226 := eq_true q226
                                        have p227 : 0 ≤ (x19_4 : Int) := of_decide_eq_true (by first | (with_reducible assumption) | assumption)
                                        have q227 : x19_4 < (t218.length : Int) := of_decide_eq_true (by first | (with_reducible assumption) | assumption)
                                        obtain ⟨ad227, e227, hx227_0⟩ := Kd.at_int (Kd.R_reads' HO_17.out).2.2 x19_4 p227 q227
                                        cases e227
                                        replace p227 := eq_true p227
                                        replace q227 := eq_true q227
                                        have p228 : 0 ≤ ((rd t218 x19_4) : Int) := of_decide_eq_true (by first | (with_reducible assumption) | assumption)
                                        have q228 : (rd t218 x19_4) < (t191.length : Int) := of_decide_eq_true (by first | (with_reducible assumption) | assumption)
                                        obtain ⟨ad228, A228_3, c228_3, e228, hx228_0, hx228_1, hx228_2, hx228_3, hx228_4, hx228_5, hl228_3, hi228_3⟩ := at_T50 (Kd.N_reads' HO_5.out).2.2 (rd t218 x19_4) p228 q228
                                        cases e228
                                        obtain ⟨ce228, hce228, hMe228, hcc228⟩ := Kd.N_get HO_5.out z50 (rd t218 x19_4) p228 (by first | exact q228 | exact of_decide_eq_true (by first | (with_reducible assumption) | assumption) | (have e_ := (Kd.N_reads' HO_5.out).1; omega))
                                        obtain ⟨ua228_3, uc228_3, rfl, ul228_3, ge228_3⟩ := k50_openF hMe228
                                        have hv228_3 := hcc228 3 _ rfl
                                        rw [add_field _ _ 3 (by omega)] at hv228_3
                                        replace hv228_3 := Option.some.inj (hv228_3.symm.trans hx228_3)
                                        injection hv228_3 with hva_ hvn_ hvc_
                                        rw [hva_] at ge228_3
                                        rw [hvc_] at ul228_3
                                        have HL228_3 := Aside0.mk (show Kd.V (Kd.int .u8) 5 _ w.heap.size _ _ ((rd_T50 t191 (rd t218 x19_4)).f3) from Kd.V_mk ul228_3 ge228_3)
                                        clear hva_ hvn_ hvc_ ge228_3 ul228_3
                                        clear hcc228 hce228
                                        have HR228_3 := Aside0.mk hi228_3
                                        have HC228_3 := Aside0.mk hl228_3
                                        clear hi228_3 hl228_3
                                        replace p228 := eq_true p228
                                        replace q228 := eq_true q228
                                        refine start_ (n := 13) (S := fun w' => w'.cell? (ad226.add ((x19_4).toNat * 6)) = some (.int .i64 ((rd_T50 t204 x19_4).f0)) ∧ w'.cell? ⟨(ad226.add ((x19_4).toNat * 6)).block, (ad226.add ((x19_4).toNat * 6)).off + 1, none⟩ = some (.int .i64 ((rd_T50 t204 x19_4).f1)) ∧ w'.cell? ⟨(ad226.add ((x19_4).toNat * 6)).block, (ad226.add ((x19_4).toNat * 6)).off + 2, none⟩ = some (.int .i64 ((rd_T50 t204 x19_4).f2)) ∧ w'.cell? ⟨(ad226.add ((x19_4).toNat * 6)).block, (ad226.add ((x19_4).toNat * 6)).off + 3, none⟩ = some (.slice A226_3 ((rd_T50 t204 x19_4).f3).length c226_3) ∧ w'.cell? ⟨(ad226.add ((x19_4).toNat * 6)).block, (ad226.add ((x19_4).toNat * 6)).off + 4, none⟩ = some (.string ((rd_T50 t204 x19_4).f4)) ∧ w'.cell? ⟨(ad226.add ((x19_4).toNat * 6)).block, (ad226.add ((x19_4).toNat * 6)).off + 5, none⟩ = some (.int .i64 ((rd_T50 t204 x19_4).f5)) ∧ w'.cell? (ad227.add (x19_4).toNat) = some (.int .i64 (rd t218 x19_4)) ∧ w'.cell? (ad228.add (((rd t218 x19_4)).toNat * 6)) = some (.int .i64 ((rd_T50 t191 (rd t218 x19_4)).f0)) ∧ w'.cell? ⟨(ad228.add (((rd t218 x19_4)).toNat * 6)).block, (ad228.add (((rd t218 x19_4)).toNat * 6)).off + 1, none⟩ = some (.int .i64 ((rd_T50 t191 (rd t218 x19_4)).f1)) ∧ w'.cell? ⟨(ad228.add (((rd t218 x19_4)).toNat * 6)).block, (ad228.add (((rd t218 x19_4)).toNat * 6)).off + 2, none⟩ = some (.int .i64 ((rd_T50 t191 (rd t218 x19_4)).f2)) ∧ w'.cell? ⟨(ad228.add (((rd t218 x19_4)).toNat * 6)).block, (ad228.add (((rd t218 x19_4)).toNat * 6)).off + 3, none⟩ = some (.slice A228_3 ((rd_T50 t191 (rd t218 x19_4)).f3).length c228_3) ∧ w'.cell? ⟨(ad228.add (((rd t218 x19_4)).toNat * 6)).block, (ad228.add (((rd t218 x19_4)).toNat * 6)).off + 4, none⟩ = some (.string ((rd_T50 t191 (rd t218 x19_4)).f4)) ∧ w'.cell? ⟨(ad228.add (((rd t218 x19_4)).toNat * 6)).block, (ad228.add (((rd t218 x19_4)).toNat * 6)).off + 5, none⟩ = some (.int .i64 ((rd_T50 t191 (rd t218 x19_4)).f5))) (ds := []) #[false, false, false, false, false, false, false, false, false, false, false, false, false] (by kernel_rfl) rfl rfl ⟨hx226_0, hx226_1, hx226_2, hx226_3, hx226_4, hx226_5, hx227_0, hx228_0, hx228_1, hx228_2, hx228_3, hx228_4, hx228_5⟩ (fun hHeld => ?_); refine with_tabW dolmenlaw14_CleanAsks.tab25 dolmenlaw14_CleanAsks.bits25 (fun HT_ HW_ => ?_)
                                        generalize wr.drew = w76 at HO_5 HO_12 HO_17 HB HL226_3 HL228_3 HR226_3 HR228_3 hx226_0 hx226_1 hx226_2 hx226_3 hx226_4 hx226_5 hx227_0 hx228_0 hx228_1 hx228_2 hx228_3 hx228_4 hx228_5 hHeld ⊢
                                        refine pure_ (i := 0) (N := some 159) (v := ?_) (a' := ?_) #[true, false, false, false, false, false, false, false, false, false, false, false, false] rfl rfl (any_of HT_.out (by kernel_rfl)) (fun _ _ _ h => h) (Or.inl ⟨by rfl, ?_⟩) ?_ ?_
                                        rotate_left
                                        · intro w'
                                          go_simp
                                          with_reducible rfl
                                        rotate_left
                                        · simp only [Act.put, List.setIfInBounds_toArray, List.set_cons_zero, List.set_cons_succ, i64_w, i32_w]
                                          rfl
                                        refine pure_ (i := 1) (N := some 160) (v := ?_) (a' := ?_) #[true, true, false, false, false, false, false, false, false, false, false, false, false] rfl rfl (any_of HT_.out (by kernel_rfl)) (fun _ _ _ h => h) (Or.inl ⟨by rfl, ?_⟩) ?_ ?_
                                        rotate_left
                                        · intro w'
                                          go_simp
                                          with_reducible rfl
                                        rotate_left
                                        · simp only [Act.put, List.setIfInBounds_toArray, List.set_cons_zero, List.set_cons_succ, i64_w, i32_w]
                                          rfl
                                        refine pure_ (i := 2) (N := some 161) (v := ?_) (a' := ?_) #[true, true, true, false, false, false, false, false, false, false, false, false, false] rfl rfl (any_of HT_.out (by kernel_rfl)) (fun _ _ _ h => h) (Or.inl ⟨by rfl, ?_⟩) ?_ ?_
                                        rotate_left
                                        · intro w'
                                          go_simp
                                          with_reducible rfl
                                        rotate_left
                                        · simp only [Act.put, List.setIfInBounds_toArray, List.set_cons_zero, List.set_cons_succ, i64_w, i32_w]
                                          rfl
                                        refine pure_ (i := 4) (N := some 163) (v := ?_) (a' := ?_) #[true, true, true, false, true, false, false, false, false, false, false, false, false] rfl rfl (any_of HT_.out (by kernel_rfl)) (fun _ _ _ h => h) (Or.inl ⟨by rfl, ?_⟩) ?_ ?_
                                        rotate_left
                                        · intro w'
                                          go_simp
                                          with_reducible rfl
                                        rotate_left
                                        · simp only [Act.put, List.setIfInBounds_toArray, List.set_cons_zero, List.set_cons_succ, i64_w, i32_w]
                                          rfl
                                        refine pure_ (i := 5) (N := some 164) (v := ?_) (a' := ?_) #[true, true, true, false, true, true, false, false, false, false, false, false, false] rfl rfl (any_of HT_.out (by kernel_rfl)) (fun _ _ _ h => h) (Or.inl ⟨by rfl, ?_⟩) ?_ ?_
                                        rotate_left
                                        · intro w'
                                          go_simp
                                          with_reducible rfl
                                        rotate_left
                                        · simp only [Act.put, List.setIfInBounds_toArray, List.set_cons_zero, List.set_cons_succ, i64_w, i32_w]
                                          rfl
                                        refine pure_ (i := 6) (N := some 165) (v := ?_) (a' := ?_) #[true, true, true, false, true, true, true, false, false, false, false, false, false] rfl rfl (any_of HT_.out (by kernel_rfl)) (fun _ _ _ h => h) (Or.inl ⟨by rfl, ?_⟩) ?_ ?_
                                        rotate_left
                                        · intro w'
                                          go_simp
                                          with_reducible rfl
                                        rotate_left
                                        · simp only [Act.put, List.setIfInBounds_toArray, List.set_cons_zero, List.set_cons_succ, i64_w, i32_w]
                                          rfl
                                        refine pure_ (i := 7) (N := some 166) (v := ?_) (a' := ?_) #[true, true, true, false, true, true, true, true, false, false, false, false, false] rfl rfl (any_of HT_.out (by kernel_rfl)) (fun _ _ _ h => h) (Or.inl ⟨by rfl, ?_⟩) ?_ ?_
                                        rotate_left
                                        · intro w'
                                          go_simp
                                          with_reducible rfl
                                        rotate_left
                                        · simp only [Act.put, List.setIfInBounds_toArray, List.set_cons_zero, List.set_cons_succ, i64_w, i32_w]
                                          rfl
                                        refine take_ (i := 3) (N := some 162) (v := ?_) (a' := ?_) #[true, true, true, true, true, true, true, true, false, false, false, false, false] rfl rfl (take_ofW HT_.out HW_.out (by kernel_rfl)) (fun _ _ _ h => h) (Or.inl ⟨by rfl, ?_⟩) hHeld ?_ ?_
                                        rotate_left
                                        · rintro w' ⟨s0, s1, s2, s3, s4, s5, s6, s7, s8, s9, s10, s11, s12⟩
                                          go_simp
                                          with_reducible rfl
                                        rotate_left
                                        · simp only [Act.put, List.setIfInBounds_toArray, List.set_cons_zero, List.set_cons_succ, i64_w, i32_w]
                                          rfl
                                        refine take_ (i := 8) (N := some 167) (v := ?_) (a' := ?_) #[true, true, true, true, true, true, true, true, true, false, false, false, false] rfl rfl (take_ofW HT_.out HW_.out (by kernel_rfl)) (fun _ _ _ h => h) (Or.inl ⟨by rfl, ?_⟩) hHeld ?_ ?_
                                        rotate_left
                                        · rintro w' ⟨s0, s1, s2, s3, s4, s5, s6, s7, s8, s9, s10, s11, s12⟩
                                          go_simp
                                          with_reducible rfl
                                        rotate_left
                                        · simp only [Act.put, List.setIfInBounds_toArray, List.set_cons_zero, List.set_cons_succ, i64_w, i32_w]
                                          rfl
                                        refine pure_ (i := 9) (N := some 168) (v := ?_) (a' := ?_) #[true, true, true, true, true, true, true, true, true, true, false, false, false] rfl rfl (any_of HT_.out (by kernel_rfl)) (fun _ _ _ h => h) (Or.inl ⟨by rfl, ?_⟩) ?_ ?_
                                        rotate_left
                                        · intro w'
                                          go_simp
                                          with_reducible rfl
                                        rotate_left
                                        · simp only [Act.put, List.setIfInBounds_toArray, List.set_cons_zero, List.set_cons_succ, i64_w, i32_w]
                                          rfl
                                        refine take_ (i := 10) (N := some 169) (v := ?_) (a' := ?_) #[true, true, true, true, true, true, true, true, true, true, true, false, false] rfl rfl (take_ofW HT_.out HW_.out (by kernel_rfl)) (fun _ _ _ h => h) (Or.inl ⟨by rfl, ?_⟩) hHeld ?_ ?_
                                        rotate_left
                                        · rintro w' ⟨s0, s1, s2, s3, s4, s5, s6, s7, s8, s9, s10, s11, s12⟩
                                          go_simp
                                          with_reducible rfl
                                        rotate_left
                                        · simp only [Act.put, List.setIfInBounds_toArray, List.set_cons_zero, List.set_cons_succ, i64_w, i32_w]
                                          rfl
                                        refine one_ (i := 11) (N := some 170) #[true, true, true, true, true, true, true, true, true, true, true, true, false] rfl rfl (one_of HT_.out (by kernel_rfl)) (by decide) (fun K hK => ?_)
                                        refine goes_ Try.func36 (by kernel_rfl) rfl #[.agg #[.int .i64 ((rd_T50 t204 x19_4).f0), .int .i64 ((rd_T50 t204 x19_4).f1), .int .i64 ((rd_T50 t204 x19_4).f2), .slice A226_3 ((rd_T50 t204 x19_4).f3).length c226_3, .string ((rd_T50 t204 x19_4).f4), .int .i64 ((rd_T50 t204 x19_4).f5)], .agg #[.int .i64 ((rd_T50 t191 (rd t218 x19_4)).f0), .int .i64 ((rd_T50 t191 (rd t218 x19_4)).f1), .int .i64 ((rd_T50 t191 (rd t218 x19_4)).f2), .slice A228_3 ((rd_T50 t191 (rd t218 x19_4)).f3).length c228_3, .string ((rd_T50 t191 (rd t218 x19_4)).f4), .int .i64 ((rd_T50 t191 (rd t218 x19_4)).f5)]] (by rfl) rfl rfl (by (try simp only [List.map_toArray, List.map_cons, List.map_nil]); first | done | rfl | (simp only [List.length_drop, List.length_take]; rfl)) ?_
                                        with_reducible refine (entry_Same.calls k4 ((rd_T50 t204 x19_4).f0) ((rd_T50 t204 x19_4).f1) ((rd_T50 t204 x19_4).f2) _ _ ((rd_T50 t204 x19_4).f3) ((rd_T50 t204 x19_4).f4) ((rd_T50 t204 x19_4).f5) ((rd_T50 t191 (rd t218 x19_4)).f0) ((rd_T50 t191 (rd t218 x19_4)).f1) ((rd_T50 t191 (rd t218 x19_4)).f2) _ _ ((rd_T50 t191 (rd t218 x19_4)).f3) ((rd_T50 t191 (rd t218 x19_4)).f4) ((rd_T50 t191 (rd t218 x19_4)).f5) false _ ?side1 ?side2 ?side3 ?side4 A69.out).mono ?_
                                        (case side1 => repeat (first | exact (by repeat (first | (with_reducible exact HR226_3.out) | (with_reducible refine Kd.C_alloc ?_ _) | (with_reducible refine Kd.C_drewN ?_ _) | (with_reducible refine Kd.C_drew ?_) | exact HR226_3.out)) | (with_reducible refine Kd.C_alloc ?_ _) | (with_reducible refine Kd.C_drewN ?_ _) | (with_reducible refine Kd.C_drew ?_)))
                                        (case side2 => exact HC226_3.out)
                                        (case side3 => repeat (first | exact (by repeat (first | (with_reducible exact HR228_3.out) | (with_reducible refine Kd.C_alloc ?_ _) | (with_reducible refine Kd.C_drewN ?_ _) | (with_reducible refine Kd.C_drew ?_) | exact HR228_3.out)) | (with_reducible refine Kd.C_alloc ?_ _) | (with_reducible refine Kd.C_drewN ?_ _) | (with_reducible refine Kd.C_drew ?_)))
                                        (case side4 => exact HC228_3.out)
                                        rintro e w78 ⟨rfl, hb⟩
                                        have HS0_ := (hb.cell (World.block_lt_of_cell? _ _ (hHeld.1))).trans (hHeld.1)
                                        have HS1_ := (hb.cell (World.block_lt_of_cell? _ _ (hHeld.2.1))).trans (hHeld.2.1)
                                        have HS2_ := (hb.cell (World.block_lt_of_cell? _ _ (hHeld.2.2.1))).trans (hHeld.2.2.1)
                                        have HS3_ := (hb.cell (World.block_lt_of_cell? _ _ (hHeld.2.2.2.1))).trans (hHeld.2.2.2.1)
                                        have HS4_ := (hb.cell (World.block_lt_of_cell? _ _ (hHeld.2.2.2.2.1))).trans (hHeld.2.2.2.2.1)
                                        have HS5_ := (hb.cell (World.block_lt_of_cell? _ _ (hHeld.2.2.2.2.2.1))).trans (hHeld.2.2.2.2.2.1)
                                        have HS6_ := (hb.cell (World.block_lt_of_cell? _ _ (hHeld.2.2.2.2.2.2.1))).trans (hHeld.2.2.2.2.2.2.1)
                                        have HS7_ := (hb.cell (World.block_lt_of_cell? _ _ (hHeld.2.2.2.2.2.2.2.1))).trans (hHeld.2.2.2.2.2.2.2.1)
                                        have HS8_ := (hb.cell (World.block_lt_of_cell? _ _ (hHeld.2.2.2.2.2.2.2.2.1))).trans (hHeld.2.2.2.2.2.2.2.2.1)
                                        have HS9_ := (hb.cell (World.block_lt_of_cell? _ _ (hHeld.2.2.2.2.2.2.2.2.2.1))).trans (hHeld.2.2.2.2.2.2.2.2.2.1)
                                        have HS10_ := (hb.cell (World.block_lt_of_cell? _ _ (hHeld.2.2.2.2.2.2.2.2.2.2.1))).trans (hHeld.2.2.2.2.2.2.2.2.2.2.1)
                                        have HS11_ := (hb.cell (World.block_lt_of_cell? _ _ (hHeld.2.2.2.2.2.2.2.2.2.2.2.1))).trans (hHeld.2.2.2.2.2.2.2.2.2.2.2.1)
                                        have HS12_ := (hb.cell (World.block_lt_of_cell? _ _ (hHeld.2.2.2.2.2.2.2.2.2.2.2.2))).trans (hHeld.2.2.2.2.2.2.2.2.2.2.2.2)
                                        refine ⟨_, rfl, ?_⟩
                                        have n0_ := Aside0.mk (Kd.N_below (by (with_reducible repeat (first | apply Kd.N_alloc | apply Kd.N_drewN | apply Kd.N_drew)); exact HO_5.out) hb)
                                        have n1_ := Aside0.mk (Kd.V_below (by (with_reducible repeat (first | apply Kd.V_alloc | apply Kd.V_drewN | apply Kd.V_drew)); exact HO_12.out) hb)
                                        have n2_ := Aside0.mk (Kd.R_below (by (with_reducible repeat (first | apply Kd.R_alloc | apply Kd.R_drewN | apply Kd.R_drew)); exact HO_17.out) hb)
                                        have n3_ := Aside0.mk (Kd.V_below (by (with_reducible repeat (first | apply Kd.V_alloc | apply Kd.V_drewN | apply Kd.V_drew)); exact HL226_3.out) hb)
                                        have n4_ := Aside0.mk (Kd.V_below (by (with_reducible repeat (first | apply Kd.V_alloc | apply Kd.V_drewN | apply Kd.V_drew)); exact HL228_3.out) hb)
                                        have n5_ := Aside0.mk (Kd.C_below (by repeat (first | (with_reducible exact HR226_3.out) | (with_reducible refine Kd.C_alloc ?_ _) | (with_reducible refine Kd.C_drewN ?_ _) | (with_reducible refine Kd.C_drew ?_) | exact HR226_3.out)) hb)
                                        have n6_ := Aside0.mk (Kd.C_below (by repeat (first | (with_reducible exact HR228_3.out) | (with_reducible refine Kd.C_alloc ?_ _) | (with_reducible refine Kd.C_drewN ?_ _) | (with_reducible refine Kd.C_drew ?_) | exact HR228_3.out)) hb)
                                        have n7_ := Aside0.mk (below_step (by repeat (first | (with_reducible first | exact HB.out | apply below_alloc | apply pw_below_drewN | apply below_drew1) | exact HB.out)) hb)
                                        clear HO_5
                                        clear HO_12
                                        clear HO_17
                                        clear HL226_3
                                        clear HL228_3
                                        clear HR226_3
                                        clear HR228_3
                                        clear HB
                                        have HO_5 := n0_
                                        have HO_12 := n1_
                                        have HO_17 := n2_
                                        have HL226_3 := n3_
                                        have HL228_3 := n4_
                                        have HR226_3 := n5_
                                        have HR228_3 := n6_
                                        have HB := n7_
                                        clear n0_ n1_ n2_ n3_ n4_ n5_ n6_ n7_
                                        (try clear hb)
                                        (try clear hb2)
                                        (try clear hk)
                                        (try clear hi)
                                        refine hK.out _ _ ⟨HS0_, HS1_, HS2_, HS3_, HS4_, HS5_, HS6_, HS7_, HS8_, HS9_, HS10_, HS11_, HS12_⟩ (fun hHeld => ?_)
                                        clear hK K
                                        refine norm_ (a' := ?_) ?_ ?_
                                        rotate_left
                                        · show Act.put _ (some 170) _ = _
                                          simp only [Act.put, List.setIfInBounds_toArray, List.set_cons_zero, List.set_cons_succ, i64_w, i32_w]
                                          rfl
                                        refine pure_ (i := 12) (N := some 171) (v := ?_) (a' := ?_) #[true, true, true, true, true, true, true, true, true, true, true, true, true] rfl rfl (any_of HT_.out (by kernel_rfl)) (fun _ _ _ h => h) (Or.inl ⟨by rfl, ?_⟩) ?_ ?_
                                        rotate_left
                                        · intro w'
                                          go_simp
                                          with_reducible rfl
                                        rotate_left
                                        · simp only [Act.put, List.setIfInBounds_toArray, List.set_cons_zero, List.set_cons_succ, i64_w, i32_w]
                                          rfl
                                        refine done_ (done_of HT_.out (by kernel_rfl)) ?_
                                        try go_wp2
                                        go_ret
                                        exact ⟨by first | rfl | (simp [errW_none, errW_some] <;> rfl) | (simp [*, errW_none, errW_some] <;> rfl), by repeat (first | (with_reducible first | exact HB.out | apply below_alloc | apply pw_below_drewN | apply below_drew1) | exact HB.out)⟩
                                    · rw [if_neg c68] at H
                                      exact absurd H (by simp)
                                  · rw [if_neg c67] at H
                                    exact absurd H (by simp)
                                · rw [if_neg c66] at H
                                  exact absurd H (by simp)
                              · rw [if_neg c65] at H
                                exact absurd H (by simp)
                            · rw [if_neg c64] at H
                              have c64b0 : decide (x19_4 < (t218.length : Int)) = false := decide_eq_false c64
                              clear c64
                              by_cases c79 : (t218.length : Int) > 0
                              · rw [if_pos c79] at H
                                have c79b0 : decide (0 < (t218.length : Int)) = true := decide_eq_true c79
                                have c79b1 : decide (0 < t218.length) = true := decide_eq_true (by omega)
                                clear c79
                                by_cases c80 : 0 < (t218.length : Int)
                                · rw [if_pos c80] at H
                                  have c80b0 : decide (0 < (t218.length : Int)) = true := decide_eq_true c80
                                  have c80b1 : decide (0 < t218.length) = true := decide_eq_true (by omega)
                                  clear c80
                                  by_cases c81 : t202 = (rd t218 0)
                                  · rw [if_pos c81] at H
                                    have c81b0 : (t202 == (rd t218 0)) = true := beq_iff_eq.mpr c81
                                    have c81b1 : (t202 != (rd t218 0)) = false := bne_eq_false_iff_eq.mpr c81
                                    clear c81
                                    replace H := Option.bind_eq_some_iff.mp H
                                    obtain ⟨t231, A820, H⟩ := H
                                    replace H : (some t231) = some r := H
                                    have A82 := Aside0.mk A820
                                    clear A820
                                    obtain rfl := Option.some.inj H
                                    obtain ⟨Ao83, co83, eo83⟩ := Kd.R_slice HO_17.out
                                    subst eo83
                                    have p230 : 0 ≤ (0 : Int) := (by omega)
                                    have q230 : 0 < (t218.length : Int) := of_decide_eq_true (by first | (with_reducible assumption) | assumption)
                                    obtain ⟨ad230, e230, hx230_0⟩ := Kd.at_int (Kd.R_reads' HO_17.out).2.2 0 p230 q230
                                    cases e230
                                    have qi230 : (0 < t218.length) = True := eq_true (by omega)
                                    (try rw [show ((0 : Int)).toNat = 0 from rfl] at hx230_0)
                                    (try rw [Addr.add_zero'] at hx230_0)
                                    replace p230 := eq_true p230
                                    replace q230 := eq_true q230
                                    go_wp2_with (first | (go_at_call 25; (with_reducible refine (dolmenlaw14_awake.calls  t231 _ A82.out).mono ?_); rintro e w84 ⟨rfl, hb⟩; have n0_ := Aside0.mk (Kd.N_below (by (with_reducible repeat (first | apply Kd.N_alloc | apply Kd.N_drewN | apply Kd.N_drew)); exact HO_5.out) hb); have n1_ := Aside0.mk (Kd.V_below (by (with_reducible repeat (first | apply Kd.V_alloc | apply Kd.V_drewN | apply Kd.V_drew)); exact HO_12.out) hb); have n2_ := Aside0.mk (Kd.R_below (by (with_reducible repeat (first | apply Kd.R_alloc | apply Kd.R_drewN | apply Kd.R_drew)); exact HO_17.out) hb); have n3_ := Aside0.mk (below_step (by repeat (first | (with_reducible first | exact HB.out | apply below_alloc | apply pw_below_drewN | apply below_drew1) | exact HB.out)) hb); clear HO_5; clear HO_12; clear HO_17; clear HB; have HO_5 := n0_; have HO_12 := n1_; have HO_17 := n2_; have HB := n3_; clear n0_ n1_ n2_ n3_; (try clear hb); (try clear hb2); (try clear hk); (try clear hi)))
                                    go_ret
                                    exact ⟨by first | rfl | (simp [errW_none, errW_some] <;> rfl) | (simp [*, errW_none, errW_some] <;> rfl), by repeat (first | (with_reducible first | exact HB.out | apply below_alloc | apply pw_below_drewN | apply below_drew1) | exact HB.out)⟩
                                  · rw [if_neg c81] at H
                                    have c81b0 : (t202 == (rd t218 0)) = false := beq_eq_false_iff_ne.mpr c81
                                    have c81b1 : (t202 != (rd t218 0)) = true := bne_iff_ne.mpr c81
                                    obtain rfl := Option.some.inj H
                                    obtain ⟨Ao85, co85, eo85⟩ := Kd.R_slice HO_17.out
                                    subst eo85
                                    have p230 : 0 ≤ (0 : Int) := (by omega)
                                    have q230 : 0 < (t218.length : Int) := of_decide_eq_true (by first | (with_reducible assumption) | assumption)
                                    obtain ⟨ad230, e230, hx230_0⟩ := Kd.at_int (Kd.R_reads' HO_17.out).2.2 0 p230 q230
                                    cases e230
                                    have qi230 : (0 < t218.length) = True := eq_true (by omega)
                                    (try rw [show ((0 : Int)).toNat = 0 from rfl] at hx230_0)
                                    (try rw [Addr.add_zero'] at hx230_0)
                                    replace p230 := eq_true p230
                                    replace q230 := eq_true q230
                                    go_wp2
                                    go_ret
                                    exact ⟨by first | rfl | (simp [errW_none, errW_some] <;> rfl) | (simp [*, errW_none, errW_some] <;> rfl), by repeat (first | (with_reducible first | exact HB.out | apply below_alloc | apply pw_below_drewN | apply below_drew1) | exact HB.out)⟩
                                · rw [if_neg c80] at H
                                  exact absurd H (by simp)
                              · rw [if_neg c79] at H
                                have c79b0 : decide (0 < (t218.length : Int)) = false := decide_eq_false c79
                                have c79b1 : decide (0 < t218.length) = false := decide_eq_false (by omega)
                                clear c79
                                by_cases c86 : t202 = (l0.length : Int)
                                · rw [if_pos c86] at H
                                  have c86b0 : (t202 == (l0.length : Int)) = true := beq_iff_eq.mpr c86
                                  have c86b1 : (t202 != (l0.length : Int)) = false := bne_eq_false_iff_eq.mpr c86
                                  clear c86
                                  replace H := Option.bind_eq_some_iff.mp H
                                  obtain ⟨t232, A870, H⟩ := H
                                  replace H : (some t232) = some r := H
                                  have A87 := Aside0.mk A870
                                  clear A870
                                  obtain rfl := Option.some.inj H
                                  obtain ⟨Ao88, co88, eo88⟩ := Kd.R_slice HO_17.out
                                  subst eo88
                                  go_wp2_with (first | (go_at_call 25; (with_reducible refine (dolmenlaw14_awake.calls  t232 _ A87.out).mono ?_); rintro e w89 ⟨rfl, hb⟩; have n0_ := Aside0.mk (Kd.N_below (by (with_reducible repeat (first | apply Kd.N_alloc | apply Kd.N_drewN | apply Kd.N_drew)); exact HO_5.out) hb); have n1_ := Aside0.mk (Kd.V_below (by (with_reducible repeat (first | apply Kd.V_alloc | apply Kd.V_drewN | apply Kd.V_drew)); exact HO_12.out) hb); have n2_ := Aside0.mk (Kd.R_below (by (with_reducible repeat (first | apply Kd.R_alloc | apply Kd.R_drewN | apply Kd.R_drew)); exact HO_17.out) hb); have n3_ := Aside0.mk (below_step (by repeat (first | (with_reducible first | exact HB.out | apply below_alloc | apply pw_below_drewN | apply below_drew1) | exact HB.out)) hb); clear HO_5; clear HO_12; clear HO_17; clear HB; have HO_5 := n0_; have HO_12 := n1_; have HO_17 := n2_; have HB := n3_; clear n0_ n1_ n2_ n3_; (try clear hb); (try clear hb2); (try clear hk); (try clear hi)))
                                  go_ret
                                  exact ⟨by first | rfl | (simp [errW_none, errW_some] <;> rfl) | (simp [*, errW_none, errW_some] <;> rfl), by repeat (first | (with_reducible first | exact HB.out | apply below_alloc | apply pw_below_drewN | apply below_drew1) | exact HB.out)⟩
                                · rw [if_neg c86] at H
                                  have c86b0 : (t202 == (l0.length : Int)) = false := beq_eq_false_iff_ne.mpr c86
                                  have c86b1 : (t202 != (l0.length : Int)) = true := bne_iff_ne.mpr c86
                                  obtain rfl := Option.some.inj H
                                  obtain ⟨Ao90, co90, eo90⟩ := Kd.R_slice HO_17.out
                                  subst eo90
                                  go_wp2
                                  go_ret
                                  exact ⟨by first | rfl | (simp [errW_none, errW_some] <;> rfl) | (simp [*, errW_none, errW_some] <;> rfl), by repeat (first | (with_reducible first | exact HB.out | apply below_alloc | apply pw_below_drewN | apply below_drew1) | exact HB.out)⟩
          · rw [if_neg c28] at H
            have c28b0 : (t209 == 0) = false := beq_eq_false_iff_ne.mpr c28
            have c28b1 : (t209 != 0) = true := bne_iff_ne.mpr c28
            by_cases c91 : (t194.length : Int) = 0
            · rw [if_pos c91] at H
              have c91b0 : ((t194.length : Int) == 0) = true := beq_iff_eq.mpr c91
              have c91b1 : ((t194.length : Int) != 0) = false := bne_eq_false_iff_eq.mpr c91
              clear c91
              by_cases c92 : (t198.length : Int) = 0
              · rw [if_pos c92] at H
                have c92b0 : ((t198.length : Int) == 0) = true := beq_iff_eq.mpr c92
                have c92b1 : ((t198.length : Int) != 0) = false := bne_eq_false_iff_eq.mpr c92
                clear c92
                by_cases c93 : t202 = 0
                · rw [if_pos c93] at H
                  have c93b0 : (t202 == 0) = true := beq_iff_eq.mpr c93
                  have c93b1 : (t202 != 0) = false := bne_eq_false_iff_eq.mpr c93
                  clear c93
                  by_cases c94 : (t204.length : Int) = 0
                  · rw [if_pos c94] at H
                    have c94b0 : ((t204.length : Int) == 0) = true := beq_iff_eq.mpr c94
                    have c94b1 : ((t204.length : Int) != 0) = false := bne_eq_false_iff_eq.mpr c94
                    clear c94
                    replace H := Option.bind_eq_some_iff.mp H
                    obtain ⟨t214, A950, H⟩ := H
                    replace H : (some t214) = some r := H
                    have A95 := Aside0.mk A950
                    clear A950
                    obtain rfl := Option.some.inj H
                    obtain ⟨Ao96, co96, eo96⟩ := Kd.R_slice HO_6.out
                    subst eo96
                    obtain ⟨Ao97, co97, eo97⟩ := Kd.R_slice HO_8.out
                    subst eo97
                    obtain ⟨Ao98, co98, eo98⟩ := Kd.V_slice HO_12.out
                    subst eo98
                    go_wp2_with (first | (go_at_call 25; (with_reducible refine (dolmenlaw14_awake.calls  t214 _ A95.out).mono ?_); rintro e w99 ⟨rfl, hb⟩; have n0_ := Aside0.mk (Kd.N_below (by (with_reducible repeat (first | apply Kd.N_alloc | apply Kd.N_drewN | apply Kd.N_drew)); exact HO_5.out) hb); have n1_ := Aside0.mk (Kd.R_below (by (with_reducible repeat (first | apply Kd.R_alloc | apply Kd.R_drewN | apply Kd.R_drew)); exact HO_6.out) hb); have n2_ := Aside0.mk (Kd.R_below (by (with_reducible repeat (first | apply Kd.R_alloc | apply Kd.R_drewN | apply Kd.R_drew)); exact HO_8.out) hb); have n3_ := Aside0.mk (Kd.V_below (by (with_reducible repeat (first | apply Kd.V_alloc | apply Kd.V_drewN | apply Kd.V_drew)); exact HO_12.out) hb); have n4_ := Aside0.mk (below_step (by repeat (first | (with_reducible first | exact HB.out | apply below_alloc | apply pw_below_drewN | apply below_drew1) | exact HB.out)) hb); clear HO_5; clear HO_6; clear HO_8; clear HO_12; clear HB; have HO_5 := n0_; have HO_6 := n1_; have HO_8 := n2_; have HO_12 := n3_; have HB := n4_; clear n0_ n1_ n2_ n3_ n4_; (try clear hb); (try clear hb2); (try clear hk); (try clear hi)))
                    go_ret
                    exact ⟨by first | rfl | (simp [errW_none, errW_some] <;> rfl) | (simp [*, errW_none, errW_some] <;> rfl), by repeat (first | (with_reducible first | exact HB.out | apply below_alloc | apply pw_below_drewN | apply below_drew1) | exact HB.out)⟩
                  · rw [if_neg c94] at H
                    have c94b0 : ((t204.length : Int) == 0) = false := beq_eq_false_iff_ne.mpr c94
                    have c94b1 : ((t204.length : Int) != 0) = true := bne_iff_ne.mpr c94
                    have c94b2 : ¬ (t204 = []) := fun h_ => c94 (by rw [h_]; rfl)
                    obtain rfl := Option.some.inj H
                    obtain ⟨Ao100, co100, eo100⟩ := Kd.R_slice HO_6.out
                    subst eo100
                    obtain ⟨Ao101, co101, eo101⟩ := Kd.R_slice HO_8.out
                    subst eo101
                    obtain ⟨Ao102, co102, eo102⟩ := Kd.V_slice HO_12.out
                    subst eo102
                    go_wp2
                    go_ret
                    exact ⟨by first | rfl | (simp [errW_none, errW_some] <;> rfl) | (simp [*, errW_none, errW_some] <;> rfl), by repeat (first | (with_reducible first | exact HB.out | apply below_alloc | apply pw_below_drewN | apply below_drew1) | exact HB.out)⟩
                · rw [if_neg c93] at H
                  have c93b0 : (t202 == 0) = false := beq_eq_false_iff_ne.mpr c93
                  have c93b1 : (t202 != 0) = true := bne_iff_ne.mpr c93
                  obtain rfl := Option.some.inj H
                  obtain ⟨Ao103, co103, eo103⟩ := Kd.R_slice HO_6.out
                  subst eo103
                  obtain ⟨Ao104, co104, eo104⟩ := Kd.R_slice HO_8.out
                  subst eo104
                  go_wp2
                  go_ret
                  exact ⟨by first | rfl | (simp [errW_none, errW_some] <;> rfl) | (simp [*, errW_none, errW_some] <;> rfl), by repeat (first | (with_reducible first | exact HB.out | apply below_alloc | apply pw_below_drewN | apply below_drew1) | exact HB.out)⟩
              · rw [if_neg c92] at H
                have c92b0 : ((t198.length : Int) == 0) = false := beq_eq_false_iff_ne.mpr c92
                have c92b1 : ((t198.length : Int) != 0) = true := bne_iff_ne.mpr c92
                have c92b2 : ¬ (t198 = []) := fun h_ => c92 (by rw [h_]; rfl)
                obtain rfl := Option.some.inj H
                obtain ⟨Ao105, co105, eo105⟩ := Kd.R_slice HO_6.out
                subst eo105
                obtain ⟨Ao106, co106, eo106⟩ := Kd.R_slice HO_8.out
                subst eo106
                go_wp2
                go_ret
                exact ⟨by first | rfl | (simp [errW_none, errW_some] <;> rfl) | (simp [*, errW_none, errW_some] <;> rfl), by repeat (first | (with_reducible first | exact HB.out | apply below_alloc | apply pw_below_drewN | apply below_drew1) | exact HB.out)⟩
            · rw [if_neg c91] at H
              have c91b0 : ((t194.length : Int) == 0) = false := beq_eq_false_iff_ne.mpr c91
              have c91b1 : ((t194.length : Int) != 0) = true := bne_iff_ne.mpr c91
              have c91b2 : ¬ (t194 = []) := fun h_ => c91 (by rw [h_]; rfl)
              obtain rfl := Option.some.inj H
              obtain ⟨Ao107, co107, eo107⟩ := Kd.R_slice HO_6.out
              subst eo107
              go_wp2
              go_ret
              exact ⟨by first | rfl | (simp [errW_none, errW_some] <;> rfl) | (simp [*, errW_none, errW_some] <;> rfl), by repeat (first | (with_reducible first | exact HB.out | apply below_alloc | apply pw_below_drewN | apply below_drew1) | exact HB.out)⟩
  · replace c4 := Bool.eq_false_iff.mpr c4
    subst c4
    have H1 : ((dolmenlaw14_awake.f).bind fun t190 => (some t190)) = some r := by rw [if_neg (show ¬ (false = true) by decide)] at H; exact H
    clear H
    have H := H1
    clear H1
    replace H := Option.bind_eq_some_iff.mp H
    obtain ⟨t190, A1080, H⟩ := H
    replace H : (some t190) = some r := H
    have A108 := Aside0.mk A1080
    clear A1080
    obtain rfl := Option.some.inj H
    go_enter Try.func8, Try.ntmps8
    go_wp2_with (first | ((with_reducible refine gate_callee (f := 24) rfl ?_); refine goesL_ (some 23) rfl rfl Try.func24 (by kernel_rfl) rfl #[.slice A0 l0.length c0, .slice A1 l1.length c1] rfl (by (try simp only [List.map_toArray, List.map_cons, List.map_nil]); first | done | rfl | (simp only [List.length_drop, List.length_take]; rfl)) ?_; (with_reducible refine (dolmenlaw14_small.calls k _ _ l0 _ _ l1 false _ ?side1 ?side2 ?side3 ?side4 A3.out).mono ?_); (case side1 => repeat (first | exact HR0.out | (with_reducible refine Kd.C_alloc ?_ _) | (with_reducible refine Kd.C_drewN ?_ _) | (with_reducible refine Kd.C_drew ?_))); (case side2 => exact HC0.out); (case side3 => repeat (first | exact HR1.out | (with_reducible refine Kd.C_alloc ?_ _) | (with_reducible refine Kd.C_drewN ?_ _) | (with_reducible refine Kd.C_drew ?_))); (case side4 => exact HC1.out); rintro e w109 ⟨rfl, hb⟩; refine ⟨_, rfl, ?_⟩; have n0_ := Aside0.mk (below_step (by repeat (first | (with_reducible first | exact HB.out | apply below_alloc | apply pw_below_drewN | apply below_drew1) | exact HB.out)) hb); clear HB; have HB := n0_; clear n0_; (try clear hb); (try clear hb2); (try clear hk); (try clear hi)) | ((with_reducible refine gate_callee (f := 25) rfl ?_); refine goesL_ (some 25) rfl rfl Try.func25 (by kernel_rfl) rfl #[] rfl (by (try simp only [List.map_toArray, List.map_cons, List.map_nil]); first | done | rfl | (simp only [List.length_drop, List.length_take]; rfl)) ?_; (with_reducible refine (dolmenlaw14_awake.calls  t190 _ A108.out).mono ?_); rintro e w110 ⟨rfl, hb⟩; refine ⟨_, rfl, ?_⟩; have n0_ := Aside0.mk (below_step (by repeat (first | (with_reducible first | exact HB.out | apply below_alloc | apply pw_below_drewN | apply below_drew1) | exact HB.out)) hb); clear HB; have HB := n0_; clear n0_; (try clear hb); (try clear hb2); (try clear hk); (try clear hi)))
    go_ret
    exact ⟨by first | rfl | (simp [errW_none, errW_some] <;> rfl) | (simp [*, errW_none, errW_some] <;> rfl), by repeat (first | (with_reducible first | exact HB.out | apply below_alloc | apply pw_below_drewN | apply below_drew1) | exact HB.out)⟩

end Go.Proofs.Ytacdocchcfbgcaa.Q
