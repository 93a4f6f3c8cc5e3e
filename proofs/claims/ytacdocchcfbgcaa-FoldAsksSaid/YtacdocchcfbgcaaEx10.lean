-- printed by wip/mp.py (the kit's print, with given functions); Lean checks it
import Derived.Test.YtacdocchcfbgcaaEx0
import Derived.Test.YtacdocchcfbgcaaEx4
namespace Go.Proofs.Ytacdocchcfbgcaa.Q
open Go.RowKit Go.Proofs.YtacdocchcfbgcaaW.PrintWords Go.Proofs.YtacdocchcfbgcaaW.PrintLast Go.Proofs.YtacdocchcfbgcaaW.PrintMore
attribute [local go_sem] max2_int min2_int max_two min_two max_three min_three max_four min_four   -- for this text's walks alone
set_option linter.unusedVariables false
set_option linter.unusedSimpArgs false

/-! ### dolmenref5_Ints: function 30 -/
def dolmenref5_Ints.l0 : Nat → List Int → List Int → Int → Option (Bool)
  | 0, _, _, _ => none
  | k + 1, x0, x1, x5 => if x5 < (x0.length : Int) then (if 0 ≤ x5 then (if x5 < (x1.length : Int) then (if (rd x0 x5) = (rd x1 x5) then (dolmenref5_Ints.l0 k x0 x1 (wrap64 (x5 + 1))) else (some false)) else (none)) else (none)) else (some true)
def dolmenref5_Ints.f (k : Nat) (l0 : List Int) (l1 : List Int) : Option (Bool) := if (l0.length : Int) = (l1.length : Int) then (dolmenref5_Ints.l0 k l0 l1 0) else (some false)
theorem dolmenref5_Ints.mono_l : ∀ k, (∀ y0 y1 y2, LeO (dolmenref5_Ints.l0 k y0 y1 y2) (dolmenref5_Ints.l0 (k + 1) y0 y1 y2))
  | 0 => fun _ _ _ r h => by simp [dolmenref5_Ints.l0] at h
  | k + 1 => by
    have ih0 := dolmenref5_Ints.mono_l k
    · intro y0 y1 y2
      unfold dolmenref5_Ints.l0
      repeat' first
      | (with_reducible exact ih0 _ _ _)
      | (with_reducible exact LeO.refl _)
      | (with_reducible exact LeO.none _)
      | (with_reducible refine LeO.ite ?_ ?_)
      | (with_reducible refine LeO.bind ?_ (fun _ => ?_))
      | exact ih0 _ _ _
      | exact LeO.none _
      | refine LeO.ite ?_ ?_
      | refine LeO.bind ?_ (fun _ => ?_)
theorem dolmenref5_Ints.mono : ∀ a0 a1 k, LeO (dolmenref5_Ints.f k a0 a1) (dolmenref5_Ints.f (k + 1) a0 a1) := by
  intro a0 a1 k
  have ih0 := dolmenref5_Ints.mono_l k
  unfold dolmenref5_Ints.f
  repeat' first
      | (with_reducible exact ih0 _ _ _)
      | (with_reducible exact LeO.refl _)
      | (with_reducible exact LeO.none _)
      | (with_reducible refine LeO.ite ?_ ?_)
      | (with_reducible refine LeO.bind ?_ (fun _ => ?_))
      | exact ih0 _ _ _
      | exact LeO.none _
      | refine LeO.ite ?_ ?_
      | refine LeO.bind ?_ (fun _ => ?_)
set_option maxHeartbeats 8000000 in
set_option maxRecDepth 100000 in
theorem dolmenref5_Ints.calls (k : Nat) (A0 : Option Addr) (c0 : Nat) (l0 : List Int) (A1 : Option Addr) (c1 : Nat) (l1 : List Int) (r : Bool) (w : World) (hr0 : Kd.C (Kd.int .i64) w A0 l0.length l0) (hc0 : l0.length ≤ c0) (hr1 : Kd.C (Kd.int .i64) w A1 l1.length l1) (hc1 : l1.length ≤ c1) (h : dolmenref5_Ints.f k l0 l1 = some r) :
    Calls Try.prog 30 #[.slice A0 l0.length c0, .slice A1 l1.length c1] w fun e w' => e = .returned (.bool r) ∧ Drawn0 w w' := by
  have HR0 := Aside0.mk hr0
  have HC0 := Aside0.mk hc0
  clear hr0 hc0
  have HR1 := Aside0.mk hr1
  have HC1 := Aside0.mk hc1
  clear hr1 hc1
  have H : (if (l0.length : Int) = (l1.length : Int) then (dolmenref5_Ints.l0 k l0 l1 0) else (some false)) = some r := h
  clear h
  by_cases c3 : (l0.length : Int) = (l1.length : Int)
  · rw [if_pos c3] at H
    have c3b0 : ((l0.length : Int) == (l1.length : Int)) = true := beq_iff_eq.mpr c3
    have c3b1 : ((l0.length : Int) != (l1.length : Int)) = false := bne_eq_false_iff_eq.mpr c3
    have c3b2 : (l0.length == l1.length) = true := by first | simpa using c3 | (simp at c3 ⊢; omega)
    clear c3
    have H' := Aside0.mk H
    clear H
    go_enter Try.func30, Try.ntmps30
    go_wp2
    repeat (go_quiet (fail); try go_wp2)
    go_loopg [5] k (fun kq v5 w' => ∃ (x5_1 : Int), v5 = .int .i64 x5_1 ∧ Aside0 (dolmenref5_Ints.l0 kq l0 l1 x5_1 = some r) ∧ Aside0 (kq ≤ k) ∧ Drawn0 w w')
    case atStart => exact ⟨(0), (by first | rfl | (simp; done) | (simp [*]; done)), H', ⟨Nat.le_refl _⟩, by repeat (first | exact Drawn0.refl _ | apply Drawn0.step)⟩
    case round =>
      clear H'
      (try clear c1); (try clear p2); (try clear c3); (try clear c3b0); (try clear c3b1); (try clear c3b2)
      obtain ⟨x5_1, rfl, HA, HK1, ⟨m1, rfl⟩⟩ := hrel
      cases gk with
      | zero => exact absurd HA.out (by simp [dolmenref5_Ints.l0])
      | succ k1 =>
        have H := HA.out
        clear HA
        simp only [dolmenref5_Ints.l0] at H
        by_cases c4 : x5_1 < (l0.length : Int)
        · rw [if_pos c4] at H
          have c4b0 : decide (x5_1 < (l0.length : Int)) = true := decide_eq_true c4
          clear c4
          by_cases c5 : 0 ≤ x5_1
          · rw [if_pos c5] at H
            have c5b0 : decide (0 ≤ x5_1) = true := decide_eq_true c5
            clear c5
            by_cases c6 : x5_1 < (l1.length : Int)
            · rw [if_pos c6] at H
              have c6b0 : decide (x5_1 < (l1.length : Int)) = true := decide_eq_true c6
              clear c6
              by_cases c7 : (rd l0 x5_1) = (rd l1 x5_1)
              · rw [if_pos c7] at H
                have c7b0 : ((rd l0 x5_1) == (rd l1 x5_1)) = true := beq_iff_eq.mpr c7
                have c7b1 : ((rd l0 x5_1) != (rd l1 x5_1)) = false := bne_eq_false_iff_eq.mpr c7
                clear c7
                have H' := Aside0.mk H
                clear H
                have p151 : 0 ≤ (x5_1 : Int) := of_decide_eq_true (by first | (with_reducible assumption) | assumption)
                have q151 : x5_1 < (l0.length : Int) := of_decide_eq_true (by first | (with_reducible assumption) | assumption)
                obtain ⟨ad151, e151, hx151_0⟩ := Kd.at_int HR0.out x5_1 p151 q151
                cases e151
                replace p151 := eq_true p151
                replace q151 := eq_true q151
                have p152 : 0 ≤ (x5_1 : Int) := of_decide_eq_true (by first | (with_reducible assumption) | assumption)
                have q152 : x5_1 < (l1.length : Int) := of_decide_eq_true (by first | (with_reducible assumption) | assumption)
                obtain ⟨ad152, e152, hx152_0⟩ := Kd.at_int HR1.out x5_1 p152 q152
                cases e152
                replace p152 := eq_true p152
                replace q152 := eq_true q152
                go_wp2
                repeat (go_quiet (fail); try go_wp2)
                go_roundg k1
                case measure => have := HK1.out; omega
                case rel => exact ⟨(wrap64 (x5_1 + 1)), (by first | rfl | (simp; done) | (simp [*]; done)), H', ⟨by have := HK1.out; omega⟩, by repeat (first | exact Drawn0.refl _ | apply Drawn0.step)⟩
              · rw [if_neg c7] at H
                have c7b0 : ((rd l0 x5_1) == (rd l1 x5_1)) = false := beq_eq_false_iff_ne.mpr c7
                have c7b1 : ((rd l0 x5_1) != (rd l1 x5_1)) = true := bne_iff_ne.mpr c7
                obtain rfl := Option.some.inj H
                have p151 : 0 ≤ (x5_1 : Int) := of_decide_eq_true (by first | (with_reducible assumption) | assumption)
                have q151 : x5_1 < (l0.length : Int) := of_decide_eq_true (by first | (with_reducible assumption) | assumption)
                obtain ⟨ad151, e151, hx151_0⟩ := Kd.at_int HR0.out x5_1 p151 q151
                cases e151
                replace p151 := eq_true p151
                replace q151 := eq_true q151
                have p152 : 0 ≤ (x5_1 : Int) := of_decide_eq_true (by first | (with_reducible assumption) | assumption)
                have q152 : x5_1 < (l1.length : Int) := of_decide_eq_true (by first | (with_reducible assumption) | assumption)
                obtain ⟨ad152, e152, hx152_0⟩ := Kd.at_int HR1.out x5_1 p152 q152
                cases e152
                replace p152 := eq_true p152
                replace q152 := eq_true q152
                go_wp2
                repeat (go_quiet (fail); try go_wp2)
                go_ret
                exact ⟨by first | rfl | (simp; done) | (simp [*]; done), by repeat (first | exact Drawn0.refl _ | apply Drawn0.step)⟩
            · rw [if_neg c6] at H
              exact absurd H (by simp)
          · rw [if_neg c5] at H
            exact absurd H (by simp)
        · rw [if_neg c4] at H
          have c4b0 : decide (x5_1 < (l0.length : Int)) = false := decide_eq_false c4
          clear c4
          obtain rfl := Option.some.inj H
          go_wp2
          repeat (go_quiet (fail); try go_wp2)
          go_ret
          exact ⟨by first | rfl | (simp; done) | (simp [*]; done), by repeat (first | exact Drawn0.refl _ | apply Drawn0.step)⟩
  · rw [if_neg c3] at H
    have c3b0 : ((l0.length : Int) == (l1.length : Int)) = false := beq_eq_false_iff_ne.mpr c3
    have c3b1 : ((l0.length : Int) != (l1.length : Int)) = true := bne_iff_ne.mpr c3
    have c3b2 : (l0.length == l1.length) = false := by first | simpa using c3 | (simp at c3 ⊢; omega)
    obtain rfl := Option.some.inj H
    go_enter Try.func30, Try.ntmps30
    go_wp2
    repeat (go_quiet (fail); try go_wp2)
    go_ret
    exact ⟨by first | rfl | (simp; done) | (simp [*]; done), by repeat (first | exact Drawn0.refl _ | apply Drawn0.step)⟩

/-! ### fold_Dir: function 37, given -/
def dirStep (k : Nat) (ep : Int) (e : S50) (L : Go.Proofs.Ytacdocchcfbgcaa.HDir.DL) : Option Go.Proofs.Ytacdocchcfbgcaa.HDir.DL :=
  if e.f1 > ep then some L else (entry_Check.f k e.f0 e.f1 e.f2 e.f3 e.f4 e.f5).bind fun t => if t.isNone = true then
    (if e.f0 = 3 then (if e.f4.size ≤ 12 ∧ 1 ≤ e.f5 ∧ e.f5 ≤ 1073741824 then some (Go.Proofs.Ytacdocchcfbgcaa.HDir.ins e.f4 e.f5 L) else none) else if e.f0 = 4 then (if e.f4.size ≤ 12 then some (Go.Proofs.Ytacdocchcfbgcaa.HDir.del e.f4 L) else none) else some L) else some L
def dirF (k : Nat) (ep : Int) : List S50 → Go.Proofs.Ytacdocchcfbgcaa.HDir.DL → Option Go.Proofs.Ytacdocchcfbgcaa.HDir.DL
  | [], L => some L
  | e :: r, L => (dirStep k ep e L).bind (dirF k ep r)
def fold_Dir.f (k : Nat) (l0 : List S50) (a1 : Int) : Option (List ByteArray × List Int) :=
  if l0.length ≤ 100000 then (dirF k a1 l0 []).map (fun R => (R.map (·.1), R.map (·.2))) else none
theorem dirStep_mono (ep : Int) (e : S50) (L : Go.Proofs.Ytacdocchcfbgcaa.HDir.DL) (k : Nat) : LeO (dirStep k ep e L) (dirStep (k + 1) ep e L) := LeO.ite (LeO.refl _) (LeO.bind (entry_Check.mono _ _ _ _ _ _ _) (fun _ => LeO.refl _))
theorem dirF_mono (ep : Int) (k : Nat) : ∀ l L, LeO (dirF k ep l L) (dirF (k + 1) ep l L)
  | [], L => LeO.refl _
  | e :: r, L => LeO.bind (dirStep_mono ep e L k) (fun _ => dirF_mono ep k r _)
theorem fold_Dir.mono : ∀ a0 a1 k, LeO (fold_Dir.f k a0 a1) (fold_Dir.f (k + 1) a0 a1) := fun _ _ k => LeO.ite (LeO.map _ (dirF_mono _ k _ _)) (LeO.refl _)
theorem dr_law : Go.Maps.Keyed Try.prog 9 := Go.Maps.string_keyed Try.underlying9
theorem dr_zero (w : World) : (zeroValue 3).run Try.prog w = .ok (.int .i64 0) w := by kernel_rfl
theorem dr_info : (Try.prog.info? 3).map (fun i => (i.zero, i.size, i.bytes)) = some (some (.int .i64 0), 1, 8) := by kernel_rfl
set_option maxHeartbeats 4000000 in
set_option maxRecDepth 100000 in
theorem fold_Dir.calls (k : Nat) (A0 : Option Addr) (c0 : Nat) (l0 : List S50) (a1 : Int) (r1 : List ByteArray) (r2 : List Int) (w : World) (hr0 : Kd.C k50 w A0 l0.length l0) (hc0 : l0.length ≤ c0) (h : fold_Dir.f k l0 a1 = some (r1, r2)) :
    Calls Try.prog 37 #[.slice A0 l0.length c0, .int .i64 a1] w fun e w' => ∃ v0_ v1_ : Value, e = .returned (.tuple #[v0_, v1_]) ∧ Kd.R Kd.string 9 w' w.heap.size (fun _ => True) v0_ r1 ∧ Kd.R (Kd.int .i64) 3 w' w.heap.size (fun _ => True) v1_ r2 ∧ Below w.heap.size w w' := by
  have hu50 := Try.underlying50
  have HR0 := Aside0.mk hr0
  have HC0 := Aside0.mk hc0
  clear hr0 hc0
  unfold fold_Dir.f at h
  split at h
  case isFalse => cases h
  rename_i hl0
  obtain ⟨R, hR, he⟩ := Option.map_eq_some_iff.mp h
  simp only [Prod.mk.injEq] at he
  obtain ⟨rfl, rfl⟩ := he
  have HF0 := Aside0.mk hR
  have HL0 := Aside0.mk hl0
  clear h hR hl0
  have hmm := @run_makeMap Try.prog
  obtain ⟨i0, hi, hz0, hz1, hz2⟩ := info_parts dr_info
  have HI := Aside0.mk hi
  have HZ := Aside0.mk (And.intro hz0 (And.intro hz1 hz2))
  clear hi hz0 hz1 hz2
  go_enter Try.func37, Try.ntmps37
  go_wp2
  go_loopw [14] (fun i wr => ∃ (j : Nat) (D : DataW Unit) (L : Go.Proofs.Ytacdocchcfbgcaa.HDir.DL), j ≤ l0.length ∧ i = .int .i64 j ∧ Aside0 (dirF k a1 (l0.drop j) L = some R) ∧ Aside0 (Go.Proofs.Ytacdocchcfbgcaa.HDir.Agrees D L) ∧ Aside0 (wr.ownsMap Try.prog 9 (plainElem Try.prog 3) w.heap.size j D) ∧ Aside0 (Below w.heap.size w wr)) (fun i _ => l0.length - (intOf i).toNat)
  case atStart => exact ⟨0, .map [], [], Nat.zero_le _, rfl, HF0, ⟨Go.Proofs.Ytacdocchcfbgcaa.HDir.agrees_nil⟩, ⟨World.ownsMap_made _ _ _ _⟩, ⟨(Below.refl _ _).alloc (Nat.le_refl _) _⟩⟩
  case round =>
    clear HF0
    obtain ⟨j, D, L, hj, rfl, HF, HAg, HM, HB⟩ := hrel
    have hm0 : l0.length ≤ 9223372036854775807 := HR0.out.2.1
    by_cases hlt : j < l0.length
    · have ht := HF.out
      clear HF
      rw [List.drop_eq_getElem_cons hlt] at ht
      unfold dirF at ht
      obtain ⟨L1, hs, ht⟩ := Option.bind_eq_some_iff.mp ht
      have HT := Aside0.mk ht
      clear ht
      have hlt' : (j : Int) < (l0.length : Int) := by omega
      obtain ⟨ae, A3, c3, rfl, e0, e1, e2, e3, e4, e5, e6, e7⟩ := at_T50 (Kd.C_below HR0.out HB.out) (j : Int) (by omega) hlt'
      have hx : rd_T50 l0 (j : Int) = l0[j] := by unfold rd_T50; simp [hlt]
      rw [hx] at e0 e1 e2 e3 e4 e5 e6 e7
      clear hx
      rw [Int.toNat_natCast] at e0 e1 e2 e3 e4 e5
      generalize l0[j] = x at *
      obtain ⟨x0, x1, x2, x3, x4, x5⟩ := x
      dsimp only at *
      have E6 := Aside0.mk e6
      have E7 := Aside0.mk e7
      have HJ := Aside0.mk hj
      clear e6 e7 hj HR0 HC0
      unfold dirStep at hs
      dsimp only at hs
      by_cases k1 : x1 > a1
      · rw [if_pos k1] at hs
        obtain rfl := Option.some.inj hs
        have b1 : decide (a1 < x1) = true := decide_eq_true k1
        clear hs k1
        go_wp2
        go_roundw
        case rel => exact ⟨j + 1, D, L, by have := HJ.out; omega, by go_num, HT, HAg, ⟨(HM.out.alloc _).mono (by omega)⟩, ⟨below_alloc HB.out _⟩⟩
        case measure => simp [intOf]; omega
      · rw [if_neg k1] at hs
        have b1 : decide (a1 < x1) = false := decide_eq_false k1
        obtain ⟨t, hc, hs⟩ := Option.bind_eq_some_iff.mp hs
        have HE := Aside0.mk hc
        clear hc k1
        cases t with
        | some q =>
          replace hs : some L = some L1 := hs
          obtain rfl := Option.some.inj hs
          clear hs
          go_wp2_with (go_at_call 46; (refine (entry_Check.calls k _ _ _ _ _ x3 _ _ _ _ (Kd.C_alloc E7.out _) E6.out HE.out).mono ?_; rintro e w4 ⟨rfl, hb⟩; have HB4 := Aside0.mk (below_step (below_alloc HB.out _) hb); have HM4 := Aside0.mk ((HM.out.alloc _).kept (grown_of_below hb none) (by simp)); have BK := (hb.block _ (by simp)).trans (heap_alloc_new wr _); have hcz_0 := blk_cell BK 0; have hcz_4 := blk_cell BK 4; have hcz_5 := blk_cell BK 5; clear hb BK; simp only [errW_none, errW_some]))
          go_roundw
          case rel => exact ⟨j + 1, D, L, by have := HJ.out; omega, by go_num, HT, HAg, ⟨HM4.out.mono (by omega)⟩, HB4⟩
          case measure => simp [intOf]; omega
        | none =>
          replace hs : (if x0 = 3 then (if x4.size ≤ 12 ∧ 1 ≤ x5 ∧ x5 ≤ 1073741824 then some (Go.Proofs.Ytacdocchcfbgcaa.HDir.ins x4 x5 L) else none) else if x0 = 4 then (if x4.size ≤ 12 then some (Go.Proofs.Ytacdocchcfbgcaa.HDir.del x4 L) else none) else some L) = some L1 := hs
          by_cases q3 : x0 = 3
          · subst q3
            rw [if_pos rfl] at hs
            split at hs
            case isFalse => cases hs
            rename_i hc3
            obtain rfl := Option.some.inj hs
            have HC3 := Aside0.mk hc3
            clear hs hc3
            go_wp2_with (first | (at_mapUpdate; (refine wpList_mapUpdate_own _ rfl _ _ _ 94 rfl 9 3 dr_law Try.underlying94 _ w.heap.size j _ rfl HM4.out (by unfold maxLen; omega) _ _ _ rfl rfl (Go.WideMaps.keyOf_string_mk Try.underlying9 (by have := HC3.out; unfold maxLen; omega)) (.lit (.int .i64 x5)) [] (plainElem_int Try.underlying3 (WalkArith.wf_i64 (by have := HC3.out; omega))) ?_; intro w5 hown5 hgrow5)) | (go_at_call 46; (refine (entry_Check.calls k _ _ _ _ _ x3 _ _ _ _ (Kd.C_alloc E7.out _) E6.out HE.out).mono ?_; rintro e w4 ⟨rfl, hb⟩; have HB4 := Aside0.mk (below_step (below_alloc HB.out _) hb); have HM4 := Aside0.mk ((HM.out.alloc _).kept (grown_of_below hb none) (by simp)); have BK := (hb.block _ (by simp)).trans (heap_alloc_new wr _); have hcz_0 := blk_cell BK 0; have hcz_4 := blk_cell BK 4; have hcz_5 := blk_cell BK 5; clear hb BK; simp only [errW_none, errW_some])))
            go_roundw
            case rel => exact ⟨j + 1, _, _, by have := HJ.out; omega, by go_num, HT, ⟨Go.Proofs.Ytacdocchcfbgcaa.HDir.agrees_ins HAg.out x4 x5⟩, ⟨hown5⟩, ⟨pw_below_grown HB4.out _ HB4.out.size hgrow5 (fun q hq => by cases hq; exact Nat.le_refl _)⟩⟩
            case measure => simp [intOf]; omega
          · have b3 : (x0 == 3) = false := by simpa using q3
            rw [if_neg q3] at hs
            by_cases q4 : x0 = 4
            · subst q4
              rw [if_pos rfl] at hs
              split at hs
              case isFalse => cases hs
              rename_i hc4
              obtain rfl := Option.some.inj hs
              have HC4 := Aside0.mk hc4
              clear hs hc4
              go_wp2_with (first | (at_delete; (refine wpList_delete_own _ rfl _ _ 94 9 rfl 3 dr_law Try.underlying94 _ w.heap.size j _ rfl HM4.out _ _ rfl (Go.WideMaps.keyOf_string_mk Try.underlying9 (by have := HC4.out; unfold maxLen; omega)) ?_; intro w5 hown5 hturn5)) | (go_at_call 46; (refine (entry_Check.calls k _ _ _ _ _ x3 _ _ _ _ (Kd.C_alloc E7.out _) E6.out HE.out).mono ?_; rintro e w4 ⟨rfl, hb⟩; have HB4 := Aside0.mk (below_step (below_alloc HB.out _) hb); have HM4 := Aside0.mk ((HM.out.alloc _).kept (grown_of_below hb none) (by simp)); have BK := (hb.block _ (by simp)).trans (heap_alloc_new wr _); have hcz_0 := blk_cell BK 0; have hcz_4 := blk_cell BK 4; have hcz_5 := blk_cell BK 5; clear hb BK; simp only [errW_none, errW_some])))
              go_roundw
              case rel => exact ⟨j + 1, _, _, by have := HJ.out; omega, by go_num, HT, ⟨Go.Proofs.Ytacdocchcfbgcaa.HDir.agrees_del HAg.out x4⟩, ⟨hown5.mono (by omega)⟩, ⟨pw_below_grown HB4.out _ HB4.out.size hturn5.grown (fun q hq => by cases hq; exact Nat.le_refl _)⟩⟩
              case measure => simp [intOf]; omega
            · have b4 : (x0 == 4) = false := by simpa using q4
              rw [if_neg q4] at hs
              obtain rfl := Option.some.inj hs
              clear hs q3 q4
              go_wp2_with (go_at_call 46; (refine (entry_Check.calls k _ _ _ _ _ x3 _ _ _ _ (Kd.C_alloc E7.out _) E6.out HE.out).mono ?_; rintro e w4 ⟨rfl, hb⟩; have HB4 := Aside0.mk (below_step (below_alloc HB.out _) hb); have HM4 := Aside0.mk ((HM.out.alloc _).kept (grown_of_below hb none) (by simp)); have BK := (hb.block _ (by simp)).trans (heap_alloc_new wr _); have hcz_0 := blk_cell BK 0; have hcz_4 := blk_cell BK 4; have hcz_5 := blk_cell BK 5; clear hb BK; simp only [errW_none, errW_some]))
              go_roundw
              case rel => exact ⟨j + 1, D, L, by have := HJ.out; omega, by go_num, HT, HAg, ⟨HM4.out.mono (by omega)⟩, HB4⟩
              case measure => simp [intOf]; omega
    · have hE : R = L := by
        have := HF.out
        rw [List.drop_eq_nil_of_le (by omega)] at this
        exact (Option.some.inj this).symm
      subst hE
      have hsz : Maps.size D ≤ j := HM.out.size_le
      have hjb : j ≤ 100000 := Nat.le_trans hj HL0.out
      clear HF
      go_wp2_with (first | (go_at_call 57; (refine (Try.Keys_calls _ _).mono ?_; rintro e w' ⟨rfl, rfl⟩)) | (go_at_call 56; (refine (Try.SortedKeys_calls w.heap.size j D _ wr HM.out (by unfold maxLen; omega) (by omega)).mono ?_; rintro e w6 ⟨v, ss, rfl, hS, hrow, hnil, hb⟩; have hnm := Go.Proofs.Ytacdocchcfbgcaa.HDir.names_row (hS.trans (Go.Proofs.Ytacdocchcfbgcaa.HDir.agrees_perm HAg.out HM.out dr_law Try.underlying9).symm) HAg.out.2.1 hrow; have HB6 := Aside0.mk (below_step (below_alloc HB.out _) hb); have HM6 := Aside0.mk ((HM.out.alloc _).kept (grown_of_below hb none) (by simp)); obtain ⟨An, cn, rfl⟩ := Kd.R_slice hnm; have HN := Aside0.mk hnm; clear hS hrow hnil hb hnm)))
      have HS6 := Aside0.mk (below_size (below_alloc HB.out (Obj.cells #[Value.map (some w.heap.size)] 94)))
      clear HB HM HR0 HC0
      go_loopw [5, 47] (fun v5 v47 wq => ∃ q : Nat, v47 = .int .i64 q ∧ q ≤ R.length ∧ Aside0 (wq.ownsRow w6.heap.size 3 1 v5 q (((R.take q).map (·.2)).map (Value.int .i64))) ∧ Aside0 (Below w6.heap.size w6 wq)) (fun _ v47 _ => R.length - (intOf v47).toNat)
      case atStart => exact ⟨0, rfl, Nat.zero_le _, ⟨own_nil _ _ _ _⟩, ⟨Below.refl _ _⟩⟩
      case round =>
        obtain ⟨q, rfl, hq, HO, HBq⟩ := hrel
        have hsR : R.length ≤ 100000 := by
          have h1 := (Go.Proofs.Ytacdocchcfbgcaa.HDir.agrees_perm HAg.out HM6.out dr_law Try.underlying9).length_eq
          rw [List.length_map] at h1
          have h2 : (Go.strKeys D).length = Maps.size D := by
            obtain ⟨es, rfl⟩ := HAg.out.1
            show (es.map _).length = es.length
            rw [List.length_map]
          omega
        by_cases hlt : q < R.length
        · have HMq := Aside0.mk (HM6.out.kept (grown_of_below HBq.out none) (by simp))
          have hks : (R[q].1).size ≤ maxLen := by
            have h1 := Go.strKeys_le HM6.out Try.underlying9 (Go.Proofs.Ytacdocchcfbgcaa.HDir.kb R[q].1) ((Go.Proofs.Ytacdocchcfbgcaa.HDir.agrees_perm HAg.out HM6.out dr_law Try.underlying9).mem_iff.1 (List.mem_map.2 ⟨R[q], List.getElem_mem hlt, rfl⟩))
            rw [Array.length_toList] at h1
            exact h1
          have hval := HAg.out.2.2.2 _ _ (Go.Proofs.Ytacdocchcfbgcaa.HDir.look_at HAg.out.2.1 R[q] (List.getElem_mem hlt))
          have htk : (R.take (q + 1)).map (·.2) = (R.take q).map (·.2) ++ [R[q].2] := by rw [List.take_succ_eq_append_getElem hlt, List.map_append]; rfl
          obtain ⟨an, e, hx⟩ := Kd.at_string (Kd.C_below (Kd.R_reads' HN.out).2.2 HBq.out) (q : Int) (by omega) (by rw [List.length_map]; omega)
          have hrd : rdOf ByteArray.empty (R.map (·.1)) (q : Int) = R[q].1 := by unfold rdOf; simp [hlt]
          rw [hrd, Int.toNat_natCast] at hx
          cases e
          generalize R[q] = p at *
          obtain ⟨s, v⟩ := p
          dsimp only at *
          have HTK := Aside0.mk htk
          have HKS := Aside0.mk hks
          have HV := Aside0.mk hval
          have HQ := Aside0.mk hq
          have HLT := Aside0.mk hlt
          have HS := Aside0.mk (below_size HBq.out)
          have hlt' : (q : Int) < (R.length : Int) := by omega
          clear htk hks hval hrd hq
          go_wp2_with (first | (at_lookup; (refine wpList_lookup_own_int _ rfl _ _ 94 rfl 9 3 .i64 dr_law Try.underlying94 Try.underlying3 (dr_zero _) w.heap.size j D rfl HMq.out _ _ rfl (Go.WideMaps.keyOf_string_mk Try.underlying9 HKS.out) ?_; intro c hat hwc; obtain rfl : c = v := (by have h_ := hat.symm.trans (HV.out _); injection h_ with h_; injection h_); clear hat hwc)) | (at_builtin; (refine wpList_append_own _ rfl _ _ 25 rfl w6.heap.size 3 i0 (.int .i64 0) 1 8 Try.underlying25 HI.out HZ.out.1 HZ.out.2.1 HZ.out.2.2 rfl (by decide) _ _ _ rfl (HO.out.alloc _) ⟨wr.heap.size, 0, none⟩ 1 1 [.int .i64 c] rfl rfl (cell_one_new _ _ _) (ints_oneCell .i64 [c]) (by have := HLT.out; unfold maxLen; omega) (by have := HLT.out; omega) (by have := HS.out; simp; omega) ?_; intro v' w7 hown' hgrow hnil')))
          go_roundw
          case rel => exact ⟨q + 1, by go_num, HLT.out, ⟨by rw [HTK.out, List.map_append]; exact hown'⟩, ⟨pw_below_grown (below_alloc HBq.out _) _ (by have := HS.out; simp; omega) hgrow (fun k_ hk => own_base HO.out k_ hk)⟩⟩
          case measure => simp [intOf]; omega
        · obtain rfl : q = R.length := by omega
          have hlen : (R.map (·.2)).length = R.length := List.length_map _
          have hro := HO.out
          rw [List.take_of_length_le (Nat.le_refl _)] at hro
          have HRO := Aside0.mk hro
          clear hro HO
          go_wp2
          go_ret2
          refine ⟨Value.slice An (R.map (·.1)).length cn, _, (by rw [List.length_map]; rfl), Kd.R_lower (Kd.R_below HN.out HBq.out) HS6.out, Kd.R_of_own (enc := Value.int .i64) (h1 := fun _ => rfl) ?_ (fun _ _ => trivial), below_then HB6.out HB6.out.size HBq.out⟩
          rw [hlen]
          exact own_less HRO.out (below_size HB6.out)

/-! ### dolmenref5_Texts: function 38 -/
def dolmenref5_Texts.l0 : Nat → List ByteArray → List ByteArray → Int → Option (Bool)
  | 0, _, _, _ => none
  | k + 1, x0, x1, x5 => if x5 < (x0.length : Int) then (if 0 ≤ x5 then (if x5 < (x1.length : Int) then (if (rdOf ByteArray.empty x0 x5).toList = (rdOf ByteArray.empty x1 x5).toList then (dolmenref5_Texts.l0 k x0 x1 (wrap64 (x5 + 1))) else (some false)) else (none)) else (none)) else (some true)
def dolmenref5_Texts.f (k : Nat) (l0 : List ByteArray) (l1 : List ByteArray) : Option (Bool) := if (l0.length : Int) = (l1.length : Int) then (dolmenref5_Texts.l0 k l0 l1 0) else (some false)
theorem dolmenref5_Texts.mono_l : ∀ k, (∀ y0 y1 y2, LeO (dolmenref5_Texts.l0 k y0 y1 y2) (dolmenref5_Texts.l0 (k + 1) y0 y1 y2))
  | 0 => fun _ _ _ r h => by simp [dolmenref5_Texts.l0] at h
  | k + 1 => by
    have ih0 := dolmenref5_Texts.mono_l k
    · intro y0 y1 y2
      unfold dolmenref5_Texts.l0
      repeat' first
      | (with_reducible exact ih0 _ _ _)
      | (with_reducible exact LeO.refl _)
      | (with_reducible exact LeO.none _)
      | (with_reducible refine LeO.ite ?_ ?_)
      | (with_reducible refine LeO.bind ?_ (fun _ => ?_))
      | exact ih0 _ _ _
      | exact LeO.none _
      | refine LeO.ite ?_ ?_
      | refine LeO.bind ?_ (fun _ => ?_)
theorem dolmenref5_Texts.mono : ∀ a0 a1 k, LeO (dolmenref5_Texts.f k a0 a1) (dolmenref5_Texts.f (k + 1) a0 a1) := by
  intro a0 a1 k
  have ih0 := dolmenref5_Texts.mono_l k
  unfold dolmenref5_Texts.f
  repeat' first
      | (with_reducible exact ih0 _ _ _)
      | (with_reducible exact LeO.refl _)
      | (with_reducible exact LeO.none _)
      | (with_reducible refine LeO.ite ?_ ?_)
      | (with_reducible refine LeO.bind ?_ (fun _ => ?_))
      | exact ih0 _ _ _
      | exact LeO.none _
      | refine LeO.ite ?_ ?_
      | refine LeO.bind ?_ (fun _ => ?_)
set_option maxHeartbeats 8000000 in
set_option maxRecDepth 100000 in
theorem dolmenref5_Texts.calls (k : Nat) (A0 : Option Addr) (c0 : Nat) (l0 : List ByteArray) (A1 : Option Addr) (c1 : Nat) (l1 : List ByteArray) (r : Bool) (w : World) (hr0 : Kd.C Kd.string w A0 l0.length l0) (hc0 : l0.length ≤ c0) (hr1 : Kd.C Kd.string w A1 l1.length l1) (hc1 : l1.length ≤ c1) (h : dolmenref5_Texts.f k l0 l1 = some r) :
    Calls Try.prog 38 #[.slice A0 l0.length c0, .slice A1 l1.length c1] w fun e w' => e = .returned (.bool r) ∧ Drawn0 w w' := by
  have HR0 := Aside0.mk hr0
  have HC0 := Aside0.mk hc0
  clear hr0 hc0
  have HR1 := Aside0.mk hr1
  have HC1 := Aside0.mk hc1
  clear hr1 hc1
  have H : (if (l0.length : Int) = (l1.length : Int) then (dolmenref5_Texts.l0 k l0 l1 0) else (some false)) = some r := h
  clear h
  by_cases c3 : (l0.length : Int) = (l1.length : Int)
  · rw [if_pos c3] at H
    have c3b0 : ((l0.length : Int) == (l1.length : Int)) = true := beq_iff_eq.mpr c3
    have c3b1 : ((l0.length : Int) != (l1.length : Int)) = false := bne_eq_false_iff_eq.mpr c3
    have c3b2 : (l0.length == l1.length) = true := by first | simpa using c3 | (simp at c3 ⊢; omega)
    clear c3
    have H' := Aside0.mk H
    clear H
    go_enter Try.func38, Try.ntmps38
    go_wp2
    repeat (go_quiet (fail); try go_wp2)
    go_loopg [5] k (fun kq v5 w' => ∃ (x5_1 : Int), v5 = .int .i64 x5_1 ∧ Aside0 (dolmenref5_Texts.l0 kq l0 l1 x5_1 = some r) ∧ Aside0 (kq ≤ k) ∧ Drawn0 w w')
    case atStart => exact ⟨(0), (by first | rfl | (simp; done) | (simp [*]; done)), H', ⟨Nat.le_refl _⟩, by repeat (first | exact Drawn0.refl _ | apply Drawn0.step)⟩
    case round =>
      clear H'
      (try clear c1); (try clear p2); (try clear c3); (try clear c3b0); (try clear c3b1); (try clear c3b2)
      obtain ⟨x5_1, rfl, HA, HK1, ⟨m1, rfl⟩⟩ := hrel
      cases gk with
      | zero => exact absurd HA.out (by simp [dolmenref5_Texts.l0])
      | succ k1 =>
        have H := HA.out
        clear HA
        simp only [dolmenref5_Texts.l0] at H
        by_cases c4 : x5_1 < (l0.length : Int)
        · rw [if_pos c4] at H
          have c4b0 : decide (x5_1 < (l0.length : Int)) = true := decide_eq_true c4
          clear c4
          by_cases c5 : 0 ≤ x5_1
          · rw [if_pos c5] at H
            have c5b0 : decide (0 ≤ x5_1) = true := decide_eq_true c5
            clear c5
            by_cases c6 : x5_1 < (l1.length : Int)
            · rw [if_pos c6] at H
              have c6b0 : decide (x5_1 < (l1.length : Int)) = true := decide_eq_true c6
              clear c6
              by_cases c7 : (rdOf ByteArray.empty l0 x5_1).toList = (rdOf ByteArray.empty l1 x5_1).toList
              · rw [if_pos c7] at H
                have c7b0 : ((rdOf ByteArray.empty l0 x5_1).toList == (rdOf ByteArray.empty l1 x5_1).toList) = true := beq_iff_eq.mpr c7
                have c7b1 : ((rdOf ByteArray.empty l0 x5_1).toList != (rdOf ByteArray.empty l1 x5_1).toList) = false := bne_eq_false_iff_eq.mpr c7
                clear c7
                have H' := Aside0.mk H
                clear H
                have p153 : 0 ≤ (x5_1 : Int) := of_decide_eq_true (by first | (with_reducible assumption) | assumption)
                have q153 : x5_1 < (l0.length : Int) := of_decide_eq_true (by first | (with_reducible assumption) | assumption)
                obtain ⟨ad153, e153, hx153_0⟩ := Kd.at_string HR0.out x5_1 p153 q153
                cases e153
                replace p153 := eq_true p153
                replace q153 := eq_true q153
                have p154 : 0 ≤ (x5_1 : Int) := of_decide_eq_true (by first | (with_reducible assumption) | assumption)
                have q154 : x5_1 < (l1.length : Int) := of_decide_eq_true (by first | (with_reducible assumption) | assumption)
                obtain ⟨ad154, e154, hx154_0⟩ := Kd.at_string HR1.out x5_1 p154 q154
                cases e154
                replace p154 := eq_true p154
                replace q154 := eq_true q154
                go_wp2
                repeat (go_quiet (fail); try go_wp2)
                go_roundg k1
                case measure => have := HK1.out; omega
                case rel => exact ⟨(wrap64 (x5_1 + 1)), (by first | rfl | (simp; done) | (simp [*]; done)), H', ⟨by have := HK1.out; omega⟩, by repeat (first | exact Drawn0.refl _ | apply Drawn0.step)⟩
              · rw [if_neg c7] at H
                have c7b0 : ((rdOf ByteArray.empty l0 x5_1).toList == (rdOf ByteArray.empty l1 x5_1).toList) = false := beq_eq_false_iff_ne.mpr c7
                have c7b1 : ((rdOf ByteArray.empty l0 x5_1).toList != (rdOf ByteArray.empty l1 x5_1).toList) = true := bne_iff_ne.mpr c7
                obtain rfl := Option.some.inj H
                have p153 : 0 ≤ (x5_1 : Int) := of_decide_eq_true (by first | (with_reducible assumption) | assumption)
                have q153 : x5_1 < (l0.length : Int) := of_decide_eq_true (by first | (with_reducible assumption) | assumption)
                obtain ⟨ad153, e153, hx153_0⟩ := Kd.at_string HR0.out x5_1 p153 q153
                cases e153
                replace p153 := eq_true p153
                replace q153 := eq_true q153
                have p154 : 0 ≤ (x5_1 : Int) := of_decide_eq_true (by first | (with_reducible assumption) | assumption)
                have q154 : x5_1 < (l1.length : Int) := of_decide_eq_true (by first | (with_reducible assumption) | assumption)
                obtain ⟨ad154, e154, hx154_0⟩ := Kd.at_string HR1.out x5_1 p154 q154
                cases e154
                replace p154 := eq_true p154
                replace q154 := eq_true q154
                go_wp2
                repeat (go_quiet (fail); try go_wp2)
                go_ret
                exact ⟨by first | rfl | (simp; done) | (simp [*]; done), by repeat (first | exact Drawn0.refl _ | apply Drawn0.step)⟩
            · rw [if_neg c6] at H
              exact absurd H (by simp)
          · rw [if_neg c5] at H
            exact absurd H (by simp)
        · rw [if_neg c4] at H
          have c4b0 : decide (x5_1 < (l0.length : Int)) = false := decide_eq_false c4
          clear c4
          obtain rfl := Option.some.inj H
          go_wp2
          repeat (go_quiet (fail); try go_wp2)
          go_ret
          exact ⟨by first | rfl | (simp; done) | (simp [*]; done), by repeat (first | exact Drawn0.refl _ | apply Drawn0.step)⟩
  · rw [if_neg c3] at H
    have c3b0 : ((l0.length : Int) == (l1.length : Int)) = false := beq_eq_false_iff_ne.mpr c3
    have c3b1 : ((l0.length : Int) != (l1.length : Int)) = true := bne_iff_ne.mpr c3
    have c3b2 : (l0.length == l1.length) = false := by first | simpa using c3 | (simp at c3 ⊢; omega)
    obtain rfl := Option.some.inj H
    go_enter Try.func38, Try.ntmps38
    go_wp2
    repeat (go_quiet (fail); try go_wp2)
    go_ret
    exact ⟨by first | rfl | (simp; done) | (simp [*]; done), by repeat (first | exact Drawn0.refl _ | apply Drawn0.step)⟩

end Go.Proofs.Ytacdocchcfbgcaa.Q
