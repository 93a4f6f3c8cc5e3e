-- printed by wip/mp.py (the kit's print, with given functions); Lean checks it
import Derived.Test.YtacdocchcfbgcaaGx0
import Derived.Test.YtacdocchcfbgcaaGx2
import Derived.Test.YtacdocchcfbgcaaGx3
namespace Go.Proofs.Ytacdocchcfbgcaa.Q
open Go.RowKit Go.Proofs.YtacdocchcfbgcaaW.PrintWords Go.Proofs.YtacdocchcfbgcaaW.PrintLast Go.Proofs.YtacdocchcfbgcaaW.PrintMore
attribute [local go_sem] max2_int min2_int max_two min_two max_three min_three max_four min_four   -- for this text's walks alone
set_option linter.unusedVariables false
set_option linter.unusedSimpArgs false

/-! ### dolmenref9_Epoch: function 22 -/
def dolmenref9_Epoch.f (a0 : Int) : Option (Bool) := if a0 ≥ 1 then (some (decide (a0 ≤ 1099511627776))) else (some false)
set_option maxHeartbeats 8000000 in
set_option maxRecDepth 100000 in
theorem dolmenref9_Epoch.calls (a0 : Int) (r : Bool) (w : World) (h : dolmenref9_Epoch.f a0 = some r) :
    Calls Try.prog 22 #[.int .i64 a0] w fun e w' => e = .returned (.bool r) ∧ Drawn0 w w' := by
  have H : (if a0 ≥ 1 then (some (decide (a0 ≤ 1099511627776))) else (some false)) = some r := h
  clear h
  by_cases c2 : a0 ≥ 1
  · rw [if_pos c2] at H
    have c2b0 : decide (1 ≤ a0) = true := decide_eq_true c2
    clear c2
    obtain rfl := Option.some.inj H
    go_enter Try.func22, Try.ntmps22
    go_wp2
    go_ret
    exact ⟨by first | rfl | (simp; done) | (simp [*]; done), by repeat (first | exact Drawn0.refl _ | apply Drawn0.step)⟩
  · rw [if_neg c2] at H
    have c2b0 : decide (1 ≤ a0) = false := decide_eq_false c2
    clear c2
    obtain rfl := Option.some.inj H
    go_enter Try.func22, Try.ntmps22
    go_wp2
    go_ret
    exact ⟨by first | rfl | (simp; done) | (simp [*]; done), by repeat (first | exact Drawn0.refl _ | apply Drawn0.step)⟩

/-! ### dolmenref9_Change: function 20, given -/
def chC (old data : List Int) : List Int := old.take (min old.length data.length) ++ (List.replicate data.length (0 : Int)).drop (min old.length data.length)
def chS (c data : List Int) : Nat → Int × Int
  | 0 => (-1, -1)
  | i + 1 => if rd c (i : Int) = rd data (i : Int) then chS c data i else ((if (chS c data i).1 < 0 then (i : Int) else (chS c data i).1), (i : Int))
def chL (old data : List Int) (epoch : Int) : List S32 := if (old.length : Int) = (data.length : Int) then [] else [⟨2, epoch, (data.length : Int), [], ⟨#[]⟩, 0⟩]
def dolmenref9_Change.f (old data : List Int) (epoch : Int) : Option (List S32) :=
  if (data.length : Int) > 2000 then some [] else if ¬ (epoch ≥ 1 ∧ epoch ≤ 1099511627776) then some [] else if (strOfNums old).toList = (strOfNums data).toList then some []
  else if (chS (chC old data) data data.length).1 ≥ 0 then
    (if (chS (chC old data) data data.length).1 ≤ (chS (chC old data) data data.length).2 ∧ (chS (chC old data) data data.length).2 < (data.length : Int) then
      some (chL old data epoch ++ [⟨1, epoch, (chS (chC old data) data data.length).1, (data.take ((chS (chC old data) data data.length).2 + 1).toNat).drop (chS (chC old data) data data.length).1.toNat, ⟨#[]⟩, 0⟩]) else none)
  else some (chL old data epoch)
set_option maxHeartbeats 4000000 in
set_option maxRecDepth 100000 in
theorem dolmenref9_Change.calls (A0 : Option Addr) (c0 : Nat) (l0 : List Int) (A1 : Option Addr) (c1 : Nat) (l1 : List Int) (a2 : Int) (r : List S32) (w : World) (hr0 : Kd.C (Kd.int .u8) w A0 l0.length l0) (hc0 : l0.length ≤ c0) (hr1 : Kd.C (Kd.int .u8) w A1 l1.length l1) (hc1 : l1.length ≤ c1) (h : dolmenref9_Change.f l0 l1 a2 = some r) :
    Calls Try.prog 20 #[.slice A0 l0.length c0, .slice A1 l1.length c1, .int .i64 a2] w fun e w' => ∃ v0_ : Value, e = .returned v0_ ∧ Kd.V k32 32 w' w.heap.size (fun k_ => w.heap.size ≤ k_) v0_ r ∧ Below w.heap.size w w' := by
  have HR0 := Aside0.mk hr0
  have HC0 := Aside0.mk hc0
  have HR1 := Aside0.mk hr1
  have HC1 := Aside0.mk hc1
  have hm0 := hr0.2.1
  have hm1 := hr1.2.1
  clear hr0 hc0 hr1 hc1
  unfold dolmenref9_Change.f at h
  by_cases k1 : (l1.length : Int) > 2000
  · rw [if_pos k1] at h
    obtain rfl := Option.some.inj h
    have b1 : decide (2000 < (l1.length : Int)) = true := decide_eq_true k1
    clear h
    go_enter Try.func20, Try.ntmps20
    go_wp2
    go_ret
    exact ⟨_, rfl, Kd.V_nil _ _ _ _ _, Below.refl _ _⟩
  · rw [if_neg k1] at h
    have b1 : decide (2000 < (l1.length : Int)) = false := decide_eq_false k1
    have he : dolmenref9_Epoch.f a2 = some (decide (a2 ≥ 1) && decide (a2 ≤ 1099511627776)) := by
      unfold dolmenref9_Epoch.f
      by_cases h1 : a2 ≥ 1 <;> simp [h1]
    by_cases k2 : ¬ (a2 ≥ 1 ∧ a2 ≤ 1099511627776)
    · rw [if_pos k2] at h
      obtain rfl := Option.some.inj h
      rw [show (decide (a2 ≥ 1) && decide (a2 ≤ 1099511627776)) = false from by rw [Bool.and_eq_false_iff]; simp; omega] at he
      have HE := Aside0.mk he
      clear h he k2
      go_enter Try.func20, Try.ntmps20
      go_wp2_with (go_at_call 22; (refine (dolmenref9_Epoch.calls a2 false _ HE.out).mono ?_; rintro e w4 ⟨rfl, ⟨nn, rfl⟩⟩))
      go_ret
      exact ⟨_, rfl, Kd.V_nil _ _ _ _ _, pw_below_drewN (Below.refl _ _) _⟩
    · rw [if_neg k2] at h
      rw [show (decide (a2 ≥ 1) && decide (a2 ≤ 1099511627776)) = true from by rw [Bool.and_eq_true]; simp; omega] at he
      have HE := Aside0.mk he
      clear he k2
      by_cases k3 : (strOfNums l0).toList = (strOfNums l1).toList
      · rw [if_pos k3] at h
        obtain rfl := Option.some.inj h
        have b3 : ((strOfNums l0).toList == (strOfNums l1).toList) = true := beq_iff_eq.mpr k3
        clear h k3
        go_enter Try.func20, Try.ntmps20
        go_wp2_with (go_at_call 22; (refine (dolmenref9_Epoch.calls a2 true _ HE.out).mono ?_; rintro e w4 ⟨rfl, ⟨nn, rfl⟩⟩; have hcv0 := Kd.C_string (c := c0) (dst := 9) Try.underlying30 Try.underlying5 Try.underlying9 (Kd.C_drewN HR0.out nn); have hcv1 := Kd.C_string (c := c1) (dst := 9) Try.underlying30 Try.underlying5 Try.underlying9 (Kd.C_drewN HR1.out nn)))
        go_ret
        exact ⟨_, rfl, Kd.V_nil _ _ _ _ _, pw_below_drewN (Below.refl _ _) _⟩
      · rw [if_neg k3] at h
        have b3 : ((strOfNums l0).toList == (strOfNums l1).toList) = false := beq_eq_false_iff_ne.mpr k3
        clear k3
        by_cases k4 : (l0.length : Int) = (l1.length : Int)
        · have hl : chL l0 l1 a2 = [] := if_pos k4
          have b4 : ((l0.length : Int) == (l1.length : Int)) = true := beq_iff_eq.mpr k4
          have HL := Aside0.mk hl
          have HH := Aside0.mk h
          clear hl h k4
          go_enter Try.func20, Try.ntmps20
          go_wp2_with (first | (go_at_call 22; (refine (dolmenref9_Epoch.calls a2 true _ HE.out).mono ?_; rintro e w4 ⟨rfl, ⟨nn, rfl⟩⟩; have hcv0 := Kd.C_string (c := c0) (dst := 9) Try.underlying30 Try.underlying5 Try.underlying9 (Kd.C_drewN HR0.out nn); have hcv1 := Kd.C_string (c := c1) (dst := 9) Try.underlying30 Try.underlying5 Try.underlying9 (Kd.C_drewN HR1.out nn))) | ((with_reducible refine gate_dst (N := 41) rfl ?_); (try (refine gate_guard (by rfl) ?_; dsimp only)); (refine Kd.R_make (Kd.int .u8) (w0 := w) w.heap.size 5 ?hg (N := 41) ?hd 30 (.tmp 40) (.tmp 40) rfl (l1.length : Int) rfl rfl Try.underlying30 (.int .u8 0) 1 (by rfl) rfl (by decide) (by decide) 0 (ok := fun _ => True) (okp := fun _ => True) (show Kd.M (Kd.int .u8) _ _ _ 0 [.int .u8 0] from rfl) (fun _ h => h) trivial (by omega) (by rw [Int.toNat_natCast]; omega) ?hB ?hS ?_; (case hd => rfl); (case hg => rfl); (case hB => exact pw_below_drewN (Below.refl _ _) _); (case hS => simp); intro v5 w5 ho hb hg_ hat; rw [Int.toNat_natCast] at ho; have HO := Aside0.mk ho; have HB := Aside0.mk hb; obtain ⟨Ac, cc, rfl⟩ := Kd.R_slice ho; clear ho hb hg_ hat)) | ((with_reducible refine gate_builtin (b := .copy) (xs := #[.tmp 42, .tmp 43]) rfl ?_); (refine Kd.R_copy (enc := Value.int .u8) (h1 := fun _ => rfl) 0 (w0 := w) w.heap.size rfl (.tmp 42) (.tmp 43) 30 30 5 rfl Try.underlying30 (by rfl) (.slice Ac l1.length cc) (List.replicate l1.length 0) l0 A0 l0.length c0 (fun _ => True) rfl rfl ?cO ?cR ?cB ?cS ?_; (case cO => have := HO.out; rw [List.length_replicate] at this; exact this); (case cR => exact Kd.C_below HR0.out HB.out); (case cB => exact HB.out); (case cS => exact below_size HB.out); intro w6 ho hb hg; rw [List.length_replicate] at ho ⊢; have HO2 := Aside0.mk (show Kd.R (Kd.int .u8) 5 w6 w.heap.size (fun _ => True) (.slice Ac l1.length cc) (chC l0 l1) from ho); have HB2 := Aside0.mk hb; clear ho hb hg HO HB)))
          obtain ⟨hcl, _, hcC⟩ := Kd.R_reads' HO2.out
          have hcl' : (chC l0 l1).length = l1.length := hcl.symm
          have HCC := Aside0.mk hcC
          have HBase := Aside0.mk (Below.refl w6.heap.size w6)
          have HLN : Aside0 (∀ W : World, Below w6.heap.size w6 W → Kd.N k32 32 W w.heap.size (fun k_ => w.heap.size ≤ k_) (.slice none 0 0) (chL l0 l1 a2)) := ⟨fun W _ => by rw [HL.out]; exact Kd.N_nil _ _ _ _ _⟩
          clear hcC hcl
          go_loopw [9, 10, 11] (fun v9 v10 v11 w' => ∃ j : Nat, j ≤ l1.length ∧ v9 = .int .i64 (chS (chC l0 l1) l1 j).1 ∧ v10 = .int .i64 (chS (chC l0 l1) l1 j).2 ∧ v11 = .int .i64 j ∧ Aside0 (Below w6.heap.size w6 w')) (fun _ _ v11 _ => l1.length - (intOf v11).toNat)
          case atStart => exact ⟨0, Nat.zero_le _, rfl, rfl, rfl, HBase⟩
          case round =>
            clear HBase
            obtain ⟨j, hj, rfl, rfl, rfl, HB4⟩ := hrel
            by_cases hlt : j < l1.length
            · have hlt' : (j : Int) < (l1.length : Int) := by omega
              obtain ⟨ad0, e0, hx0⟩ := Kd.at_int (Kd.C_below HCC.out HB4.out) (j : Int) (by omega) (by omega)
              obtain ⟨ad1, e1, hx1⟩ := Kd.at_int (Kd.C_below (Kd.C_below HR1.out HB2.out) HB4.out) (j : Int) (by omega) hlt'
              cases e0
              cases e1
              rw [Int.toNat_natCast] at hx0 hx1
              have hst : chS (chC l0 l1) l1 (j + 1) = if rd (chC l0 l1) (j : Int) = rd l1 (j : Int) then chS (chC l0 l1) l1 j else ((if (chS (chC l0 l1) l1 j).1 < 0 then (j : Int) else (chS (chC l0 l1) l1 j).1), (j : Int)) := rfl
              have HST := Aside0.mk hst
              clear hst
              have hb3 : (0 : Int) ≤ (j : Int) := by omega
              generalize rd (chC l0 l1) (j : Int) = x at *
              generalize rd l1 (j : Int) = y at *
              generalize hcs : chS (chC l0 l1) l1 j = cs at *
              have HCS := Aside0.mk hcs
              clear hcs
              obtain ⟨f0, f1⟩ := cs
              dsimp only at *
              by_cases hxy : x = y
              · have b5 : (x != y) = false := bne_eq_false_iff_eq.mpr hxy
                have b6 : (x == y) = true := beq_iff_eq.mpr hxy
                have HN := Aside0.mk (show chS (chC l0 l1) l1 (j + 1) = (f0, f1) by rw [HST.out, if_pos hxy])
                clear hxy
                go_wp2
                go_region_held3 (fun w' => w'.cell? (ad0.add j) = some (.int .u8 x) ∧ w'.cell? (ad1.add j) = some (.int .u8 y)) (go_keep) (fail)
                go_wp2
                go_roundw
                case rel => exact ⟨j + 1, by omega, by rw [HN.out], by rw [HN.out], by go_num, ⟨by repeat (first | exact HB4.out | apply pw_below_drewN | apply below_drew1)⟩⟩
                case measure => simp [intOf]; omega
              · have b5 : (x != y) = true := bne_iff_ne.mpr hxy
                have b6 : (x == y) = false := beq_eq_false_iff_ne.mpr hxy
                have hn : chS (chC l0 l1) l1 (j + 1) = (if f0 < 0 then (j : Int) else f0, (j : Int)) := by rw [HST.out, if_neg hxy]
                clear hxy
                by_cases hf : f0 < 0
                · rw [if_pos hf] at hn
                  have HN := Aside0.mk hn
                  have b7 : decide (f0 < 0) = true := decide_eq_true hf
                  clear hn hf
                  go_wp2
                  go_region_held3 (fun w' => w'.cell? (ad0.add j) = some (.int .u8 x) ∧ w'.cell? (ad1.add j) = some (.int .u8 y)) (go_keep) (fail)
                  go_wp2
                  go_roundw
                  case rel => exact ⟨j + 1, by omega, by rw [HN.out], by rw [HN.out], by go_num, ⟨by repeat (first | exact HB4.out | apply pw_below_drewN | apply below_drew1)⟩⟩
                  case measure => simp [intOf]; omega
                · rw [if_neg hf] at hn
                  have HN := Aside0.mk hn
                  have b7 : decide (f0 < 0) = false := decide_eq_false hf
                  clear hn hf
                  go_wp2
                  go_region_held3 (fun w' => w'.cell? (ad0.add j) = some (.int .u8 x) ∧ w'.cell? (ad1.add j) = some (.int .u8 y)) (go_keep) (fail)
                  go_wp2
                  go_roundw
                  case rel => exact ⟨j + 1, by omega, by rw [HN.out], by rw [HN.out], by go_num, ⟨by repeat (first | exact HB4.out | apply pw_below_drewN | apply below_drew1)⟩⟩
                  case measure => simp [intOf]; omega
            · have hje : j = l1.length := by omega
              subst hje
              have h := HH.out
              clear HH
              generalize chS (chC l0 l1) l1 l1.length = cs at *
              obtain ⟨f0, f1⟩ := cs
              dsimp only at *
              by_cases hf : f0 ≥ 0
              · rw [if_pos hf] at h
                split at h
                · rename_i hc
                  obtain ⟨q1, q2⟩ := hc
                  obtain ⟨F, rfl⟩ := Int.eq_ofNat_of_zero_le hf
                  obtain ⟨G, rfl⟩ := Int.eq_ofNat_of_zero_le (show 0 ≤ f1 by omega)
                  have g1 : F ≤ G + 1 := by omega
                  have g2 : G + 1 ≤ l1.length := by omega
                  have hne : ¬ c1 = F := by have := HC1.out; omega
                  have hBr := below_then HB2.out HB2.out.size HB4.out
                  have hsrc := Kd.C_mid (c := c1) (Kd.C_below HR1.out hBr) g1 g2 HC1.out
                  rw [if_neg hne, show F * (Kd.int .u8).sz = F from Nat.mul_one F] at hsrc
                  rw [show ((G : Int) + 1).toNat = G + 1 by omega, show ((F : Int)).toNat = F by omega] at h
                  have hyl : ((l1.take (G + 1)).drop F).length = G + 1 - F := by rw [List.length_drop, List.length_take]; omega
                  rw [hyl] at hsrc
                  have hcc1 := HC1.out
                  generalize hys : (l1.take (G + 1)).drop F = ys at *
                  obtain rfl := Option.some.inj h
                  have HSrc := Aside0.mk hsrc
                  have HBr := Aside0.mk hBr
                  have HYl := Aside0.mk hyl
                  have HLr := Aside0.mk (HLN.out wr HB4.out)
                  have HLl := Aside0.mk (show (chL l0 l1 a2).length ≤ 1 by unfold chL; split <;> simp)
                  have HLlt := Aside0.mk (Kd.N_lt HLr.out)
                  have b8 : decide ((0 : Int) ≤ (F : Int)) = true := decide_eq_true (by omega)
                  clear h hsrc hBr hyl hys
                  go_wp2_with (first | ((with_reducible refine gate_dst (N := 69) rfl ?_); (try (refine gate_guard (by rfl) ?_; dsimp only)); (refine Kd.R_lit (Kd.int .u8) (w0 := wr) wr.heap.size 5 ?hg (N := 69) ?hd (xs := ([] : List Int)) (inner := []) (ok := fun k_ => wr.heap.size ≤ k_) (okp := fun _ => False) ?hr ?hp (fun _ hk => hk.elim) (Nat.le_refl _) (Below.refl _ _) (Nat.le_refl _) (by simp) ?_; (case hd => rfl); (case hg => rfl); (case hr => first | (go_simp; done) | (go_simp; rfl)); (case hp => exact Reps.none _ _); intro v240 w12 ho13 hb hg_ hnew_; have HE2 := Aside0.mk ho13; have HBe := Aside0.mk hb; clear ho13 hb hg_ hnew_; obtain ⟨Ao14, co14, eo14⟩ := Kd.R_slice HE2.out; subst eo14)) | ((with_reducible refine gate_builtin (b := .append) (xs := #[.tmp 69, .tmp 74]) rfl ?_); at_builtin; (refine Kd.R_append_rows (Kd.int .u8) (w0 := wr) wr.heap.size rfl (.tmp 69) (.tmp 74) 30 5 (.int .u8 0) 1 rfl Try.underlying30 (by rfl) rfl (by decide) (by omega) _ ([] : List Int) ys _ _ _ (fun k_ => wr.heap.size ≤ k_) (fun _ => False) rfl rfl ?aO ?aR (fun _ _ h => h) (fun _ h => h.elim) ?aF ?aB ?aS ?aL ?_; (case aR => exact Kd.C_below HSrc.out HBe.out); (case aB => exact HBe.out); (case aF => exact (fun k hk => Nat.le_trans (below_size HBe.out) hk)); (case aO => exact HE2.out); (case aS => exact below_size HBe.out); (case aL => simp only [List.length_nil]; omega); intro v225 w16 ho hb hg hat; rw [List.nil_append] at ho; obtain ⟨Ad, cd, eod⟩ := Kd.R_slice ho; subst eod; have HD := Aside0.mk (Kd.N_F (Kd.R_N ho)); have HDl := Aside0.mk (Kd.R_reads' ho).2.1; have HBd := Aside0.mk hb; have HLr2 := Aside0.mk (Kd.N_below HLr.out hb); clear ho hb hg hat)) | ((with_reducible refine gate_builtin (b := .append) (xs := #[.tmp 66, .tmp 77]) rfl ?_); at_builtin; (refine Kd.N_append k32 (w0 := w) w.heap.size rfl (.tmp 66) (.tmp 77) 22 32 (.agg #[.int .i64 0, .int .i64 0, .int .i64 0, .slice none 0 0, .string ⟨#[]⟩, .int .i64 0]) 72 rfl Try.underlying22 (by rfl) rfl (by decide) (by omega) _ (chL l0 l1 a2) ⟨1, a2, (F : Int), ys, ⟨#[]⟩, 0⟩ _ (fun k_ => w.heap.size ≤ k_) (fun k_ => wr.heap.size ≤ k_) rfl rfl (k32_mkF _ _ ⟨1, a2, (F : Int), ys, ⟨#[]⟩, 0⟩ HDl.out HD.out) ?aK ?aF ?aO ?aB ?aS ?aL ?_; (case aK => exact fun k hk => ⟨Nat.le_trans (below_size HBr.out) hk, fun he => by have := HLlt.out k he.symm; omega⟩); (case aF => exact fun k hk => Nat.le_trans (Nat.le_trans (below_size HBr.out) (below_size HBd.out)) hk); (case aO => exact HLr2.out); (case aB => exact below_then HBr.out HBr.out.size HBd.out); (case aS => exact Nat.le_trans (below_size HBr.out) (below_size HBd.out)); (case aL => have := HLl.out; omega); intro v1 w18 ho hb hg hat; have HO4 := Aside0.mk ho; have HB7 := Aside0.mk hb; clear ho hb hg hat)))
                  go_ret
                  exact ⟨_, rfl, Kd.N_V HO4.out, HB7.out⟩
                · cases h
              · rw [if_neg hf] at h
                obtain rfl := Option.some.inj h
                have b7 : decide (f0 ≥ 0) = false := decide_eq_false hf
                clear h
                go_wp2
                go_ret
                exact ⟨_, rfl, by rw [HL.out]; exact Kd.V_nil _ _ _ _ _, below_then HB2.out HB2.out.size HB4.out⟩
        · have hl : chL l0 l1 a2 = [⟨2, a2, (l1.length : Int), [], ⟨#[]⟩, 0⟩] := if_neg k4
          have b4 : ((l0.length : Int) == (l1.length : Int)) = false := beq_eq_false_iff_ne.mpr k4
          have HL := Aside0.mk hl
          have HH := Aside0.mk h
          clear hl h k4
          go_enter Try.func20, Try.ntmps20
          go_wp2_with (first | (go_at_call 22; (refine (dolmenref9_Epoch.calls a2 true _ HE.out).mono ?_; rintro e w4 ⟨rfl, ⟨nn, rfl⟩⟩; have hcv0 := Kd.C_string (c := c0) (dst := 9) Try.underlying30 Try.underlying5 Try.underlying9 (Kd.C_drewN HR0.out nn); have hcv1 := Kd.C_string (c := c1) (dst := 9) Try.underlying30 Try.underlying5 Try.underlying9 (Kd.C_drewN HR1.out nn))) | ((with_reducible refine gate_builtin (b := .append) (xs := #[.tmp 32, .tmp 37]) rfl ?_); at_builtin; (refine Kd.N_append k32 (w0 := w) w.heap.size rfl (.tmp 32) (.tmp 37) 22 32 (.agg #[.int .i64 0, .int .i64 0, .int .i64 0, .slice none 0 0, .string ⟨#[]⟩, .int .i64 0]) 72 rfl Try.underlying22 (by rfl) rfl (by decide) (by omega) _ ([] : List S32) ⟨2, a2, (l1.length : Int), [], ⟨#[]⟩, 0⟩ _ (fun k_ => w.heap.size ≤ k_) (fun _ => False) rfl rfl (k32_mkF _ _ ⟨2, a2, (l1.length : Int), [], ⟨#[]⟩, 0⟩ (Nat.le_refl 0) (Kd.F_nil _ _ _)) (fun _ hk => hk.elim) ?aF ?aO ?aB ?aS ?aL ?_; (case aF => exact fun k hk => by simpa using hk); (case aO => exact Kd.N_nil _ _ _ _ _); (case aB => exact pw_below_drewN (Below.refl _ _) _); (case aS => simp); (case aL => simp); intro v3 w3 ho hb hg hat; rw [List.nil_append, ← HL.out] at ho; have HLa := Aside0.mk (Kd.N_bound ho); have HBa := Aside0.mk hb; clear ho hb hg hat)) | ((with_reducible refine gate_dst (N := 41) rfl ?_); (try (refine gate_guard (by rfl) ?_; dsimp only)); (refine Kd.R_make (Kd.int .u8) (w0 := w) w.heap.size 5 ?hg (N := 41) ?hd 30 (.tmp 40) (.tmp 40) rfl (l1.length : Int) rfl rfl Try.underlying30 (.int .u8 0) 1 (by rfl) rfl (by decide) (by decide) 0 (ok := fun _ => True) (okp := fun _ => True) (show Kd.M (Kd.int .u8) _ _ _ 0 [.int .u8 0] from rfl) (fun _ h => h) trivial (by omega) (by rw [Int.toNat_natCast]; omega) ?hB ?hS ?_; (case hd => rfl); (case hg => rfl); (case hB => exact HBa.out); (case hS => exact below_size HBa.out); intro v5 w5 ho hb hg_ hat; rw [Int.toNat_natCast] at ho; have HO := Aside0.mk ho; have HB := Aside0.mk hb; have HLb := Aside0.mk (Kd.N_grown HLa.out hg_ (fun _ _ => by simp)); obtain ⟨Ac, cc, rfl⟩ := Kd.R_slice ho; have HAt := Aside0.mk hat; clear ho hb hg_ hat)) | ((with_reducible refine gate_builtin (b := .copy) (xs := #[.tmp 42, .tmp 43]) rfl ?_); (refine Kd.R_copy (enc := Value.int .u8) (h1 := fun _ => rfl) 0 (w0 := w) w.heap.size rfl (.tmp 42) (.tmp 43) 30 30 5 rfl Try.underlying30 (by rfl) (.slice Ac l1.length cc) (List.replicate l1.length 0) l0 A0 l0.length c0 (fun _ => True) rfl rfl ?cO ?cR ?cB ?cS ?_; (case cO => have := HO.out; rw [List.length_replicate] at this; exact this); (case cR => exact Kd.C_below HR0.out HB.out); (case cB => exact HB.out); (case cS => exact below_size HB.out); intro w6 ho hb hg; rw [List.length_replicate] at ho ⊢; have HO2 := Aside0.mk (show Kd.R (Kd.int .u8) 5 w6 w.heap.size (fun _ => True) (.slice Ac l1.length cc) (chC l0 l1) from ho); have HB2 := Aside0.mk hb; have HLc := Aside0.mk (Kd.N_mono (Kd.N_grown HLb.out hg (fun k hk he => by obtain ⟨b, hb1, hb2⟩ := HAt.out; rw [List.length_replicate] at hb1; have he2 : some k = some b := Eq.trans he hb1; injection he2 with he2; have := hk.2; omega)) (fun _ hk => hk.1)); clear ho hb hg HO HB)))
          obtain ⟨hcl, _, hcC⟩ := Kd.R_reads' HO2.out
          have hcl' : (chC l0 l1).length = l1.length := hcl.symm
          have HCC := Aside0.mk hcC
          have HBase := Aside0.mk (Below.refl w6.heap.size w6)
          have HLN : Aside0 (∀ W : World, Below w6.heap.size w6 W → Kd.N k32 32 W w.heap.size (fun k_ => w.heap.size ≤ k_) v3 (chL l0 l1 a2)) := ⟨fun W hW => Kd.N_below HLc.out hW⟩
          clear hcC hcl
          go_loopw [9, 10, 11] (fun v9 v10 v11 w' => ∃ j : Nat, j ≤ l1.length ∧ v9 = .int .i64 (chS (chC l0 l1) l1 j).1 ∧ v10 = .int .i64 (chS (chC l0 l1) l1 j).2 ∧ v11 = .int .i64 j ∧ Aside0 (Below w6.heap.size w6 w')) (fun _ _ v11 _ => l1.length - (intOf v11).toNat)
          case atStart => exact ⟨0, Nat.zero_le _, rfl, rfl, rfl, HBase⟩
          case round =>
            clear HBase
            obtain ⟨j, hj, rfl, rfl, rfl, HB4⟩ := hrel
            by_cases hlt : j < l1.length
            · have hlt' : (j : Int) < (l1.length : Int) := by omega
              obtain ⟨ad0, e0, hx0⟩ := Kd.at_int (Kd.C_below HCC.out HB4.out) (j : Int) (by omega) (by omega)
              obtain ⟨ad1, e1, hx1⟩ := Kd.at_int (Kd.C_below (Kd.C_below HR1.out HB2.out) HB4.out) (j : Int) (by omega) hlt'
              cases e0
              cases e1
              rw [Int.toNat_natCast] at hx0 hx1
              have hst : chS (chC l0 l1) l1 (j + 1) = if rd (chC l0 l1) (j : Int) = rd l1 (j : Int) then chS (chC l0 l1) l1 j else ((if (chS (chC l0 l1) l1 j).1 < 0 then (j : Int) else (chS (chC l0 l1) l1 j).1), (j : Int)) := rfl
              have HST := Aside0.mk hst
              clear hst
              have hb3 : (0 : Int) ≤ (j : Int) := by omega
              generalize rd (chC l0 l1) (j : Int) = x at *
              generalize rd l1 (j : Int) = y at *
              generalize hcs : chS (chC l0 l1) l1 j = cs at *
              have HCS := Aside0.mk hcs
              clear hcs
              obtain ⟨f0, f1⟩ := cs
              dsimp only at *
              by_cases hxy : x = y
              · have b5 : (x != y) = false := bne_eq_false_iff_eq.mpr hxy
                have b6 : (x == y) = true := beq_iff_eq.mpr hxy
                have HN := Aside0.mk (show chS (chC l0 l1) l1 (j + 1) = (f0, f1) by rw [HST.out, if_pos hxy])
                clear hxy
                go_wp2
                go_region_held3 (fun w' => w'.cell? (ad0.add j) = some (.int .u8 x) ∧ w'.cell? (ad1.add j) = some (.int .u8 y)) (go_keep) (fail)
                go_wp2
                go_roundw
                case rel => exact ⟨j + 1, by omega, by rw [HN.out], by rw [HN.out], by go_num, ⟨by repeat (first | exact HB4.out | apply pw_below_drewN | apply below_drew1)⟩⟩
                case measure => simp [intOf]; omega
              · have b5 : (x != y) = true := bne_iff_ne.mpr hxy
                have b6 : (x == y) = false := beq_eq_false_iff_ne.mpr hxy
                have hn : chS (chC l0 l1) l1 (j + 1) = (if f0 < 0 then (j : Int) else f0, (j : Int)) := by rw [HST.out, if_neg hxy]
                clear hxy
                by_cases hf : f0 < 0
                · rw [if_pos hf] at hn
                  have HN := Aside0.mk hn
                  have b7 : decide (f0 < 0) = true := decide_eq_true hf
                  clear hn hf
                  go_wp2
                  go_region_held3 (fun w' => w'.cell? (ad0.add j) = some (.int .u8 x) ∧ w'.cell? (ad1.add j) = some (.int .u8 y)) (go_keep) (fail)
                  go_wp2
                  go_roundw
                  case rel => exact ⟨j + 1, by omega, by rw [HN.out], by rw [HN.out], by go_num, ⟨by repeat (first | exact HB4.out | apply pw_below_drewN | apply below_drew1)⟩⟩
                  case measure => simp [intOf]; omega
                · rw [if_neg hf] at hn
                  have HN := Aside0.mk hn
                  have b7 : decide (f0 < 0) = false := decide_eq_false hf
                  clear hn hf
                  go_wp2
                  go_region_held3 (fun w' => w'.cell? (ad0.add j) = some (.int .u8 x) ∧ w'.cell? (ad1.add j) = some (.int .u8 y)) (go_keep) (fail)
                  go_wp2
                  go_roundw
                  case rel => exact ⟨j + 1, by omega, by rw [HN.out], by rw [HN.out], by go_num, ⟨by repeat (first | exact HB4.out | apply pw_below_drewN | apply below_drew1)⟩⟩
                  case measure => simp [intOf]; omega
            · have hje : j = l1.length := by omega
              subst hje
              have h := HH.out
              clear HH
              generalize chS (chC l0 l1) l1 l1.length = cs at *
              obtain ⟨f0, f1⟩ := cs
              dsimp only at *
              by_cases hf : f0 ≥ 0
              · rw [if_pos hf] at h
                split at h
                · rename_i hc
                  obtain ⟨q1, q2⟩ := hc
                  obtain ⟨F, rfl⟩ := Int.eq_ofNat_of_zero_le hf
                  obtain ⟨G, rfl⟩ := Int.eq_ofNat_of_zero_le (show 0 ≤ f1 by omega)
                  have g1 : F ≤ G + 1 := by omega
                  have g2 : G + 1 ≤ l1.length := by omega
                  have hne : ¬ c1 = F := by have := HC1.out; omega
                  have hBr := below_then HB2.out HB2.out.size HB4.out
                  have hsrc := Kd.C_mid (c := c1) (Kd.C_below HR1.out hBr) g1 g2 HC1.out
                  rw [if_neg hne, show F * (Kd.int .u8).sz = F from Nat.mul_one F] at hsrc
                  rw [show ((G : Int) + 1).toNat = G + 1 by omega, show ((F : Int)).toNat = F by omega] at h
                  have hyl : ((l1.take (G + 1)).drop F).length = G + 1 - F := by rw [List.length_drop, List.length_take]; omega
                  rw [hyl] at hsrc
                  have hcc1 := HC1.out
                  generalize hys : (l1.take (G + 1)).drop F = ys at *
                  obtain rfl := Option.some.inj h
                  have HSrc := Aside0.mk hsrc
                  have HBr := Aside0.mk hBr
                  have HYl := Aside0.mk hyl
                  have HLr := Aside0.mk (HLN.out wr HB4.out)
                  have HLl := Aside0.mk (show (chL l0 l1 a2).length ≤ 1 by unfold chL; split <;> simp)
                  have HLlt := Aside0.mk (Kd.N_lt HLr.out)
                  have b8 : decide ((0 : Int) ≤ (F : Int)) = true := decide_eq_true (by omega)
                  clear h hsrc hBr hyl hys
                  go_wp2_with (first | ((with_reducible refine gate_dst (N := 69) rfl ?_); (try (refine gate_guard (by rfl) ?_; dsimp only)); (refine Kd.R_lit (Kd.int .u8) (w0 := wr) wr.heap.size 5 ?hg (N := 69) ?hd (xs := ([] : List Int)) (inner := []) (ok := fun k_ => wr.heap.size ≤ k_) (okp := fun _ => False) ?hr ?hp (fun _ hk => hk.elim) (Nat.le_refl _) (Below.refl _ _) (Nat.le_refl _) (by simp) ?_; (case hd => rfl); (case hg => rfl); (case hr => first | (go_simp; done) | (go_simp; rfl)); (case hp => exact Reps.none _ _); intro v240 w12 ho13 hb hg_ hnew_; have HE2 := Aside0.mk ho13; have HBe := Aside0.mk hb; clear ho13 hb hg_ hnew_; obtain ⟨Ao14, co14, eo14⟩ := Kd.R_slice HE2.out; subst eo14)) | ((with_reducible refine gate_builtin (b := .append) (xs := #[.tmp 69, .tmp 74]) rfl ?_); at_builtin; (refine Kd.R_append_rows (Kd.int .u8) (w0 := wr) wr.heap.size rfl (.tmp 69) (.tmp 74) 30 5 (.int .u8 0) 1 rfl Try.underlying30 (by rfl) rfl (by decide) (by omega) _ ([] : List Int) ys _ _ _ (fun k_ => wr.heap.size ≤ k_) (fun _ => False) rfl rfl ?aO ?aR (fun _ _ h => h) (fun _ h => h.elim) ?aF ?aB ?aS ?aL ?_; (case aR => exact Kd.C_below HSrc.out HBe.out); (case aB => exact HBe.out); (case aF => exact (fun k hk => Nat.le_trans (below_size HBe.out) hk)); (case aO => exact HE2.out); (case aS => exact below_size HBe.out); (case aL => simp only [List.length_nil]; omega); intro v225 w16 ho hb hg hat; rw [List.nil_append] at ho; obtain ⟨Ad, cd, eod⟩ := Kd.R_slice ho; subst eod; have HD := Aside0.mk (Kd.N_F (Kd.R_N ho)); have HDl := Aside0.mk (Kd.R_reads' ho).2.1; have HBd := Aside0.mk hb; have HLr2 := Aside0.mk (Kd.N_below HLr.out hb); clear ho hb hg hat)) | ((with_reducible refine gate_builtin (b := .append) (xs := #[.tmp 66, .tmp 77]) rfl ?_); at_builtin; (refine Kd.N_append k32 (w0 := w) w.heap.size rfl (.tmp 66) (.tmp 77) 22 32 (.agg #[.int .i64 0, .int .i64 0, .int .i64 0, .slice none 0 0, .string ⟨#[]⟩, .int .i64 0]) 72 rfl Try.underlying22 (by rfl) rfl (by decide) (by omega) _ (chL l0 l1 a2) ⟨1, a2, (F : Int), ys, ⟨#[]⟩, 0⟩ _ (fun k_ => w.heap.size ≤ k_) (fun k_ => wr.heap.size ≤ k_) rfl rfl (k32_mkF _ _ ⟨1, a2, (F : Int), ys, ⟨#[]⟩, 0⟩ HDl.out HD.out) ?aK ?aF ?aO ?aB ?aS ?aL ?_; (case aK => exact fun k hk => ⟨Nat.le_trans (below_size HBr.out) hk, fun he => by have := HLlt.out k he.symm; omega⟩); (case aF => exact fun k hk => Nat.le_trans (Nat.le_trans (below_size HBr.out) (below_size HBd.out)) hk); (case aO => exact HLr2.out); (case aB => exact below_then HBr.out HBr.out.size HBd.out); (case aS => exact Nat.le_trans (below_size HBr.out) (below_size HBd.out)); (case aL => have := HLl.out; omega); intro v1 w18 ho hb hg hat; have HO4 := Aside0.mk ho; have HB7 := Aside0.mk hb; clear ho hb hg hat)))
                  go_ret
                  exact ⟨_, rfl, Kd.N_V HO4.out, HB7.out⟩
                · cases h
              · rw [if_neg hf] at h
                obtain rfl := Option.some.inj h
                have b7 : decide (f0 ≥ 0) = false := decide_eq_false hf
                clear h
                go_wp2
                go_ret
                exact ⟨_, rfl, Kd.N_V (HLN.out wr HB4.out), below_then HB2.out HB2.out.size HB4.out⟩

/-! ### fold_Pack: function 21 -/
def fold_Pack.f (k : Nat) (l0 : List Int) (a1 : Int) : Option ((List (S50))) := (slices_Clone_byte_byte.f l0).bind fun t156 => ((entry_Check.f k 1 a1 0 t156 (⟨#[]⟩ : ByteArray) 0).bind fun t160 => (if t160.isNone = true then (some (([(⟨1, a1, 0, t156, (⟨#[]⟩ : ByteArray), 0⟩ : S50)] : List (S50)))) else (some ([] : List (S50)))))
theorem fold_Pack.mono : ∀ a0 a1 k, LeO (fold_Pack.f k a0 a1) (fold_Pack.f (k + 1) a0 a1) := by
  intro a0 a1 k
  unfold fold_Pack.f
  repeat' first
      | (with_reducible exact entry_Check.mono _ _ _ _ _ _ _)
      | (with_reducible exact LeO.refl _)
      | (with_reducible exact LeO.none _)
      | (with_reducible refine LeO.ite ?_ ?_)
      | (with_reducible refine LeO.bind ?_ (fun _ => ?_))
      | exact entry_Check.mono _ _ _ _ _ _ _
      | exact LeO.none _
      | refine LeO.ite ?_ ?_
      | refine LeO.bind ?_ (fun _ => ?_)
set_option maxHeartbeats 8000000 in
set_option maxRecDepth 100000 in
theorem fold_Pack.calls (k : Nat) (A0 : Option Addr) (c0 : Nat) (l0 : List Int) (a1 : Int) (r : List (S50)) (w : World) (hr0 : Kd.C (Kd.int .u8) w A0 l0.length l0) (hc0 : l0.length ≤ c0) (h : fold_Pack.f k l0 a1 = some r) :
    Calls Try.prog 21 #[.slice A0 l0.length c0, .int .i64 a1] w fun e w' => ∃ v0_ : Value, e = .returned (v0_) ∧ Kd.N k50 50 w' w.heap.size (fun k_ => (w.heap.size ≤ k_)) v0_ r ∧ Below w.heap.size w w' := by
  have hu50 := Try.underlying50
  have hu44 := Try.underlying44
  have hu90 := Try.underlying90
  have HR0 := Aside0.mk hr0
  have HC0 := Aside0.mk hc0
  clear hr0 hc0
  have HB := Aside0.mk (Below.refl w.heap.size w)
  have H : ((slices_Clone_byte_byte.f l0).bind fun t156 => ((entry_Check.f k 1 a1 0 t156 (⟨#[]⟩ : ByteArray) 0).bind fun t160 => (if t160.isNone = true then (some (([(⟨1, a1, 0, t156, (⟨#[]⟩ : ByteArray), 0⟩ : S50)] : List (S50)))) else (some ([] : List (S50)))))) = some r := h
  clear h
  replace H := Option.bind_eq_some_iff.mp H
  obtain ⟨t156, A30, H⟩ := H
  replace H : ((entry_Check.f k 1 a1 0 t156 (⟨#[]⟩ : ByteArray) 0).bind fun t160 => (if t160.isNone = true then (some (([(⟨1, a1, 0, t156, (⟨#[]⟩ : ByteArray), 0⟩ : S50)] : List (S50)))) else (some ([] : List (S50))))) = some r := H
  have A3 := Aside0.mk A30
  clear A30
  replace H := Option.bind_eq_some_iff.mp H
  obtain ⟨t160, A40, H⟩ := H
  replace H : (if t160.isNone = true then (some (([(⟨1, a1, 0, t156, (⟨#[]⟩ : ByteArray), 0⟩ : S50)] : List (S50)))) else (some ([] : List (S50)))) = some r := H
  have A4 := Aside0.mk A40
  clear A40
  rcases t160 with _ | q161
  · have H1 : (some (([(⟨1, a1, 0, t156, (⟨#[]⟩ : ByteArray), 0⟩ : S50)] : List (S50)))) = some r := by rw [if_pos (show (none : Option Int).isNone = true by rfl)] at H; exact H
    clear H
    have H := H1
    clear H1
    try simp only [errW_none, errW_some]
    obtain ⟨y162, hy162⟩ : ∃ y_ : List (S50), y_ = (([(⟨1, a1, 0, t156, (⟨#[]⟩ : ByteArray), 0⟩ : S50)] : List (S50))) := ⟨_, rfl⟩
    replace H : (some y162) = some r := by first | (rw [hy162]; with_reducible exact H) | (have H2_ := (Option.bind_some _ _).symm.trans H; rw [hy162]; with_reducible exact H2_) | (have H2_ := (Option.bind_some _ _).symm.trans H; with_reducible exact H2_) | with_reducible exact H | (rw [hy162]; exact H) | exact H
    have Ny162 := Aside0.mk hy162
    clear hy162
    obtain rfl := Option.some.inj H
    go_enter Try.func21, Try.ntmps21
    go_wp2_with (first | ((with_reducible refine gate_callee (f := 48) rfl ?_); refine goesL_ (some 8) rfl rfl Try.func48 (by kernel_rfl) rfl #[.slice A0 l0.length c0] rfl (by (try simp only [List.map_toArray, List.map_cons, List.map_nil]); first | done | rfl | (simp only [List.length_drop, List.length_take]; rfl)) ?_; (with_reducible refine (slices_Clone_byte_byte.calls _ _ l0 t156 _ ?side1 ?side2 A3.out).mono ?_); (case side1 => repeat (first | exact HR0.out | (with_reducible refine Kd.C_alloc ?_ _) | (with_reducible refine Kd.C_drewN ?_ _) | (with_reducible refine Kd.C_drew ?_))); (case side2 => exact HC0.out); rintro e w5 ⟨v157, rfl, ho0, hb⟩; refine ⟨_, rfl, ?_⟩; have n0_ := Aside0.mk (Kd.R_lower (Kd.R_newM (M := fun k_ => (w.heap.size ≤ k_)) ho0 (below_size (by repeat (first | (with_reducible first | exact HB.out | apply below_alloc | apply pw_below_drewN | apply below_drew1) | exact HB.out))) (fun k_ h_ => h_)) (below_size (by repeat (first | (with_reducible first | exact HB.out | apply below_alloc | apply pw_below_drewN | apply below_drew1) | exact HB.out)))); have n1_ := Aside0.mk (below_step (by repeat (first | (with_reducible first | exact HB.out | apply below_alloc | apply pw_below_drewN | apply below_drew1) | exact HB.out)) hb); clear HB; have HO158 := n0_; have HB := n1_; clear n0_ n1_; (try clear hb); (try clear hb2); (try clear hk); (try clear hi); (try clear ho0); obtain ⟨Ao6, co6, eo6⟩ := Kd.R_slice HO158.out; subst eo6) | ((with_reducible refine gate_dst (N := 5) rfl ?_); refine box_event ?hg (N := 5) ?hd (cs := #[.int .i64 0, .int .i64 0, .int .i64 0, .slice none 0 0, .string (⟨#[]⟩ : ByteArray), .int .i64 0]) (t := 50) ?hr ?_; (case hd => rfl); (case hg => rfl); (case hr => first | (go_simp; done) | (go_simp; rfl)); intro gb159 hg w7 hbox hb; have n0_ := Aside0.mk (Kd.R_below (by (with_reducible repeat (first | apply Kd.R_alloc | apply Kd.R_drewN | apply Kd.R_drew)); exact HO158.out) hb); have n1_ := Aside0.mk (below_step (by repeat (first | (with_reducible first | exact HB.out | apply below_alloc | apply pw_below_drewN | apply below_drew1) | exact HB.out)) hb); have n2_ := Aside0.mk (hbox); have n3_ := Aside0.mk ((by rw [hg]; exact (below_size (by repeat (first | (with_reducible first | exact HB.out | apply below_alloc | apply pw_below_drewN | apply below_drew1) | exact HB.out))) : w.heap.size ≤ gb159)); have n4_ := Aside0.mk ((by rw [hg]; exact (below_size (by repeat (first | (with_reducible first | exact HB.out | apply below_alloc | apply pw_below_drewN | apply below_drew1) | exact HB.out))) : w.heap.size ≤ gb159)); clear HO158; clear HB; have HO158 := n0_; have HB := n1_; have BK159 := n2_; have GW159 := n3_; have GE159 := n4_; clear n0_ n1_ n2_ n3_ n4_; clear hb hbox hg; have hcz8_0 : w7.cell? ⟨gb159, 0, none⟩ = some (.int .i64 0) := (blk_cell BK159.out 0).trans rfl; have hcz8_1 : w7.cell? ⟨gb159, 1, none⟩ = some (.int .i64 0) := (blk_cell BK159.out 1).trans rfl; have hcz8_2 : w7.cell? ⟨gb159, 2, none⟩ = some (.int .i64 0) := (blk_cell BK159.out 2).trans rfl; have hcz8_3 : w7.cell? ⟨gb159, 3, none⟩ = some (.slice none 0 0) := (blk_cell BK159.out 3).trans rfl; have hcz8_4 : w7.cell? ⟨gb159, 4, none⟩ = some (.string (⟨#[]⟩ : ByteArray)) := (blk_cell BK159.out 4).trans rfl; have hcz8_5 : w7.cell? ⟨gb159, 5, none⟩ = some (.int .i64 0) := (blk_cell BK159.out 5).trans rfl; have hfz8_0 := blk_frozen BK159.out 0; have hfz8_1 := blk_frozen BK159.out 1; have hfz8_2 := blk_frozen BK159.out 2; have hfz8_3 := blk_frozen BK159.out 3; have hfz8_4 := blk_frozen BK159.out 4; have hfz8_5 := blk_frozen BK159.out 5) | ((with_reducible refine gate_callee (f := 46) rfl ?_); refine goesL_ (some 11) rfl rfl Try.func46 (by kernel_rfl) rfl #[.agg #[.int .i64 1, .int .i64 a1, .int .i64 0, .slice Ao6 t156.length co6, .string (⟨#[]⟩ : ByteArray), .int .i64 0]] rfl (by (try simp only [List.map_toArray, List.map_cons, List.map_nil]); first | done | rfl | (simp only [List.length_drop, List.length_take]; rfl)) ?_; (with_reducible refine (entry_Check.calls k 1 a1 0 _ _ t156 (⟨#[]⟩ : ByteArray) 0 none _ ?side1 ?side2 A4.out).mono ?_); (case side1 => refine (Kd.R_reads' (e := 5) (base := w.heap.size) (ok := fun k_ => ((w.heap.size ≤ k_) ∧ True)) (n := t156.length) (c := co6) ?_).2.2; exact (by (with_reducible repeat (first | apply Kd.R_alloc | apply Kd.R_drewN | apply Kd.R_drew)); exact (Kd.R_mono (Kd.R_far (p := ⟨gb159, 5, none⟩) (Kd.R_far (p := ⟨gb159, 4, none⟩) (Kd.R_far (p := ⟨gb159, 3, none⟩) (Kd.R_far (p := ⟨gb159, 2, none⟩) (Kd.R_far (p := ⟨gb159, 1, none⟩) (Kd.R_far (p := ⟨gb159, 0, none⟩) (Kd.R_types HO158.out BK159.out (by decide)) (fun _ hk => hk.2) (.int .i64 1)) (fun _ hk => hk.2) (.int .i64 a1)) (fun _ hk => hk.2) (.int .i64 0)) (fun _ hk => hk.2) (.slice Ao6 t156.length co6)) (fun _ hk => hk.2) (.string (⟨#[]⟩ : ByteArray))) (fun _ hk => hk.2) (.int .i64 0)) (fun _ h_ => h_.1)))); (case side2 => exact (Kd.R_reads' HO158.out).2.1); rintro e w9 ⟨rfl, hb⟩; refine ⟨_, rfl, ?_⟩; have n0_ := Aside0.mk (Kd.R_below (by (with_reducible repeat (first | apply Kd.R_alloc | apply Kd.R_drewN | apply Kd.R_drew)); exact (Kd.R_mono (Kd.R_far (p := ⟨gb159, 5, none⟩) (Kd.R_far (p := ⟨gb159, 4, none⟩) (Kd.R_far (p := ⟨gb159, 3, none⟩) (Kd.R_far (p := ⟨gb159, 2, none⟩) (Kd.R_far (p := ⟨gb159, 1, none⟩) (Kd.R_far (p := ⟨gb159, 0, none⟩) (Kd.R_types HO158.out BK159.out (by decide)) (fun _ hk => hk.2) (.int .i64 1)) (fun _ hk => hk.2) (.int .i64 a1)) (fun _ hk => hk.2) (.int .i64 0)) (fun _ hk => hk.2) (.slice Ao6 t156.length co6)) (fun _ hk => hk.2) (.string (⟨#[]⟩ : ByteArray))) (fun _ hk => hk.2) (.int .i64 0)) (fun _ h_ => h_.1))) hb); have n1_ := Aside0.mk (blk_below (g := gb159) (o := .cells #[.int .i64 1, .int .i64 a1, .int .i64 0, .slice Ao6 t156.length co6, .string (⟨#[]⟩ : ByteArray), .int .i64 0] 50 (0, 0)) (by (with_reducible repeat (first | refine blk_drewN ?_ _ | refine blk_drew ?_ | refine blk_alloc ?_ _)); refine blk_put (cs := #[.int .i64 1, .int .i64 a1, .int .i64 0, .slice Ao6 t156.length co6, .string (⟨#[]⟩ : ByteArray), .int .i64 0]) ?_ 5 _ rfl; (with_reducible repeat (first | refine blk_drewN ?_ _ | refine blk_drew ?_ | refine blk_alloc ?_ _)); refine blk_put (cs := #[.int .i64 1, .int .i64 a1, .int .i64 0, .slice Ao6 t156.length co6, .string (⟨#[]⟩ : ByteArray), .int .i64 0]) ?_ 4 _ rfl; (with_reducible repeat (first | refine blk_drewN ?_ _ | refine blk_drew ?_ | refine blk_alloc ?_ _)); refine blk_put (cs := #[.int .i64 1, .int .i64 a1, .int .i64 0, .slice none 0 0, .string (⟨#[]⟩ : ByteArray), .int .i64 0]) ?_ 3 _ rfl; (with_reducible repeat (first | refine blk_drewN ?_ _ | refine blk_drew ?_ | refine blk_alloc ?_ _)); refine blk_put (cs := #[.int .i64 1, .int .i64 a1, .int .i64 0, .slice none 0 0, .string (⟨#[]⟩ : ByteArray), .int .i64 0]) ?_ 2 _ rfl; (with_reducible repeat (first | refine blk_drewN ?_ _ | refine blk_drew ?_ | refine blk_alloc ?_ _)); refine blk_put (cs := #[.int .i64 1, .int .i64 0, .int .i64 0, .slice none 0 0, .string (⟨#[]⟩ : ByteArray), .int .i64 0]) ?_ 1 _ rfl; (with_reducible repeat (first | refine blk_drewN ?_ _ | refine blk_drew ?_ | refine blk_alloc ?_ _)); refine blk_put (cs := #[.int .i64 0, .int .i64 0, .int .i64 0, .slice none 0 0, .string (⟨#[]⟩ : ByteArray), .int .i64 0]) ?_ 0 _ rfl; (with_reducible repeat (first | refine blk_drewN ?_ _ | refine blk_drew ?_ | refine blk_alloc ?_ _)); exact BK159.out) hb); have n2_ := Aside0.mk (below_step (by repeat (first | (with_reducible first | exact HB.out | apply below_alloc | apply pw_below_drewN | apply below_drew1 | refine below_set ?_ GE159.out) | exact HB.out)) hb); clear HO158; clear BK159; clear HB; have HO158 := n0_; have BK159 := n1_; have HB := n2_; clear n0_ n1_ n2_; (try clear hb); (try clear hb2); (try clear hk); (try clear hi); (try simp only [errW_none, errW_some]); have hcz10_0 : w9.cell? ⟨gb159, 0, none⟩ = some (.int .i64 1) := (blk_cell BK159.out 0).trans rfl; have hcz10_1 : w9.cell? ⟨gb159, 1, none⟩ = some (.int .i64 a1) := (blk_cell BK159.out 1).trans rfl; have hcz10_2 : w9.cell? ⟨gb159, 2, none⟩ = some (.int .i64 0) := (blk_cell BK159.out 2).trans rfl; have hcz10_3 : w9.cell? ⟨gb159, 3, none⟩ = some (.slice Ao6 t156.length co6) := (blk_cell BK159.out 3).trans rfl; have hcz10_4 : w9.cell? ⟨gb159, 4, none⟩ = some (.string (⟨#[]⟩ : ByteArray)) := (blk_cell BK159.out 4).trans rfl; have hcz10_5 : w9.cell? ⟨gb159, 5, none⟩ = some (.int .i64 0) := (blk_cell BK159.out 5).trans rfl; have hfz10_0 := blk_frozen BK159.out 0; have hfz10_1 := blk_frozen BK159.out 1; have hfz10_2 := blk_frozen BK159.out 2; have hfz10_3 := blk_frozen BK159.out 3; have hfz10_4 := blk_frozen BK159.out 4; have hfz10_5 := blk_frozen BK159.out 5) | ((with_reducible refine gate_dst (N := 14) rfl ?_); refine Kd.N_lit k50 _ 50 ?hg (N' := 14) ?hd (xs := ([(⟨1, a1, 0, t156, (⟨#[]⟩ : ByteArray), 0⟩ : S50)] : List (S50))) (inner := [.int .i64 1, .int .i64 a1, .int .i64 0, .slice Ao6 t156.length co6, .string (⟨#[]⟩ : ByteArray), .int .i64 0]) (ok := (fun k_ => (w.heap.size ≤ k_) ∧ k_ ≠ gb159)) (okp := (fun k_ => (w.heap.size ≤ k_) ∧ k_ ≠ gb159)) ?hr ?hp (fun _ hk => hk) ((show ∀ k_, w9.heap.size ≤ k_ → (fun k_ => (w.heap.size ≤ k_) ∧ k_ ≠ gb159) k_ from fun k_ hk => ⟨(Nat.le_trans (below_size (by repeat (first | (with_reducible first | exact HB.out | apply below_alloc | apply pw_below_drewN | apply below_drew1 | refine below_set ?_ GE159.out) | exact HB.out))) hk), Kd.freshB (g := gb159) (o := .cells #[.int .i64 1, .int .i64 a1, .int .i64 0, .slice Ao6 t156.length co6, .string (⟨#[]⟩ : ByteArray), .int .i64 0] 50 (0, 0)) (by (with_reducible repeat (first | refine blk_drewN ?_ _ | refine blk_drew ?_ | refine blk_alloc ?_ _)); exact BK159.out) k_ hk⟩) _ (Nat.le_refl _)) (Below.refl _ _) (Nat.le_refl _) (by simp) ?_; (case hd => rfl); (case hg => rfl); (case hr => first | (go_simp; done) | (go_simp; rfl)); (case hp => exact (Reps.c6 (show Kd.FK k50 _ _ (⟨1, a1, 0, t156, (⟨#[]⟩ : ByteArray), 0⟩ : S50) [.int .i64 1, .int .i64 a1, .int .i64 0, .slice Ao6 t156.length co6, .string (⟨#[]⟩ : ByteArray), .int .i64 0] from (k50_mkF _ _ (⟨1, a1, 0, t156, (⟨#[]⟩ : ByteArray), 0⟩ : S50) (Kd.R_reads' (Kd.R_mono (ok' := (fun k_ => (w.heap.size ≤ k_) ∧ k_ ≠ gb159)) (Kd.R_types (HO158.out) BK159.out (by decide)) (fun k_ hk => ⟨hk.1.1, hk.2⟩))).2.1 (Kd.R_F (Kd.R_mono (ok' := (fun k_ => (w.heap.size ≤ k_) ∧ k_ ≠ gb159)) (Kd.R_types (HO158.out) BK159.out (by decide)) (fun k_ hk => ⟨hk.1.1, hk.2⟩))))) (Reps.none _ _))); intro v163 w11 ho12 hb hg_ hnew_; clear hg_ hnew_; (first | rw [← Ny162.out] at ho12 | (simp only [Int.reduceToNat] at ho12; rw [← Ny162.out] at ho12)); have n0_ := Aside0.mk (Kd.N_lower ho12 (below_size (by repeat (first | (with_reducible first | exact HB.out | apply below_alloc | apply pw_below_drewN | apply below_drew1 | refine below_set ?_ GE159.out) | exact HB.out)))); have n1_ := Aside0.mk (blk_below (g := gb159) (o := .cells #[.int .i64 1, .int .i64 a1, .int .i64 0, .slice Ao6 t156.length co6, .string (⟨#[]⟩ : ByteArray), .int .i64 0] 50 (0, 0)) (by (with_reducible repeat (first | refine blk_drewN ?_ _ | refine blk_drew ?_ | refine blk_alloc ?_ _)); exact BK159.out) hb); have n2_ := Aside0.mk (below_step (by repeat (first | (with_reducible first | exact HB.out | apply below_alloc | apply pw_below_drewN | apply below_drew1 | refine below_set ?_ GE159.out) | exact HB.out)) hb); clear BK159; clear HB; clear HO158; have HO164 := n0_; have BK159 := n1_; have HB := n2_; clear n0_ n1_ n2_; clear hb ho12))
    go_ret
    exact ⟨_, by first | rfl | (simp [errW_none, errW_some] <;> rfl) | (simp [*, errW_none, errW_some] <;> rfl), by (with_reducible repeat (first | apply Kd.N_alloc | apply Kd.N_drewN | apply Kd.N_drew)); exact Kd.N_mono HO164.out (fun _ hk => hk.1), by repeat (first | (with_reducible first | exact HB.out | apply below_alloc | apply pw_below_drewN | apply below_drew1 | refine below_set ?_ GE159.out) | exact HB.out)⟩
  · have H1 : (some ([] : List (S50))) = some r := by rw [if_neg (show ¬ (some q161).isNone = true by simp)] at H; exact H
    clear H
    have H := H1
    clear H1
    try simp only [errW_none, errW_some]
    obtain rfl := Option.some.inj H
    go_enter Try.func21, Try.ntmps21
    go_wp2_with (first | ((with_reducible refine gate_callee (f := 48) rfl ?_); refine goesL_ (some 8) rfl rfl Try.func48 (by kernel_rfl) rfl #[.slice A0 l0.length c0] rfl (by (try simp only [List.map_toArray, List.map_cons, List.map_nil]); first | done | rfl | (simp only [List.length_drop, List.length_take]; rfl)) ?_; (with_reducible refine (slices_Clone_byte_byte.calls _ _ l0 t156 _ ?side1 ?side2 A3.out).mono ?_); (case side1 => repeat (first | exact HR0.out | (with_reducible refine Kd.C_alloc ?_ _) | (with_reducible refine Kd.C_drewN ?_ _) | (with_reducible refine Kd.C_drew ?_))); (case side2 => exact HC0.out); rintro e w13 ⟨v157, rfl, ho0, hb⟩; refine ⟨_, rfl, ?_⟩; have n0_ := Aside0.mk (Kd.R_lower (Kd.R_newM (M := fun k_ => (w.heap.size ≤ k_)) ho0 (below_size (by repeat (first | (with_reducible first | exact HB.out | apply below_alloc | apply pw_below_drewN | apply below_drew1) | exact HB.out))) (fun k_ h_ => h_)) (below_size (by repeat (first | (with_reducible first | exact HB.out | apply below_alloc | apply pw_below_drewN | apply below_drew1) | exact HB.out)))); have n1_ := Aside0.mk (below_step (by repeat (first | (with_reducible first | exact HB.out | apply below_alloc | apply pw_below_drewN | apply below_drew1) | exact HB.out)) hb); clear HB; have HO158 := n0_; have HB := n1_; clear n0_ n1_; (try clear hb); (try clear hb2); (try clear hk); (try clear hi); (try clear ho0); obtain ⟨Ao14, co14, eo14⟩ := Kd.R_slice HO158.out; subst eo14) | ((with_reducible refine gate_dst (N := 5) rfl ?_); refine box_event ?hg (N := 5) ?hd (cs := #[.int .i64 0, .int .i64 0, .int .i64 0, .slice none 0 0, .string (⟨#[]⟩ : ByteArray), .int .i64 0]) (t := 50) ?hr ?_; (case hd => rfl); (case hg => rfl); (case hr => first | (go_simp; done) | (go_simp; rfl)); intro gb159 hg w15 hbox hb; have n0_ := Aside0.mk (Kd.R_below (by (with_reducible repeat (first | apply Kd.R_alloc | apply Kd.R_drewN | apply Kd.R_drew)); exact HO158.out) hb); have n1_ := Aside0.mk (below_step (by repeat (first | (with_reducible first | exact HB.out | apply below_alloc | apply pw_below_drewN | apply below_drew1) | exact HB.out)) hb); have n2_ := Aside0.mk (hbox); have n3_ := Aside0.mk ((by rw [hg]; exact (below_size (by repeat (first | (with_reducible first | exact HB.out | apply below_alloc | apply pw_below_drewN | apply below_drew1) | exact HB.out))) : w.heap.size ≤ gb159)); have n4_ := Aside0.mk ((by rw [hg]; exact (below_size (by repeat (first | (with_reducible first | exact HB.out | apply below_alloc | apply pw_below_drewN | apply below_drew1) | exact HB.out))) : w.heap.size ≤ gb159)); clear HO158; clear HB; have HO158 := n0_; have HB := n1_; have BK159 := n2_; have GW159 := n3_; have GE159 := n4_; clear n0_ n1_ n2_ n3_ n4_; clear hb hbox hg; have hcz16_0 : w15.cell? ⟨gb159, 0, none⟩ = some (.int .i64 0) := (blk_cell BK159.out 0).trans rfl; have hcz16_1 : w15.cell? ⟨gb159, 1, none⟩ = some (.int .i64 0) := (blk_cell BK159.out 1).trans rfl; have hcz16_2 : w15.cell? ⟨gb159, 2, none⟩ = some (.int .i64 0) := (blk_cell BK159.out 2).trans rfl; have hcz16_3 : w15.cell? ⟨gb159, 3, none⟩ = some (.slice none 0 0) := (blk_cell BK159.out 3).trans rfl; have hcz16_4 : w15.cell? ⟨gb159, 4, none⟩ = some (.string (⟨#[]⟩ : ByteArray)) := (blk_cell BK159.out 4).trans rfl; have hcz16_5 : w15.cell? ⟨gb159, 5, none⟩ = some (.int .i64 0) := (blk_cell BK159.out 5).trans rfl; have hfz16_0 := blk_frozen BK159.out 0; have hfz16_1 := blk_frozen BK159.out 1; have hfz16_2 := blk_frozen BK159.out 2; have hfz16_3 := blk_frozen BK159.out 3; have hfz16_4 := blk_frozen BK159.out 4; have hfz16_5 := blk_frozen BK159.out 5) | ((with_reducible refine gate_callee (f := 46) rfl ?_); refine goesL_ (some 11) rfl rfl Try.func46 (by kernel_rfl) rfl #[.agg #[.int .i64 1, .int .i64 a1, .int .i64 0, .slice Ao14 t156.length co14, .string (⟨#[]⟩ : ByteArray), .int .i64 0]] rfl (by (try simp only [List.map_toArray, List.map_cons, List.map_nil]); first | done | rfl | (simp only [List.length_drop, List.length_take]; rfl)) ?_; (with_reducible refine (entry_Check.calls k 1 a1 0 _ _ t156 (⟨#[]⟩ : ByteArray) 0 (some q161) _ ?side1 ?side2 A4.out).mono ?_); (case side1 => refine (Kd.R_reads' (e := 5) (base := w.heap.size) (ok := fun k_ => ((w.heap.size ≤ k_) ∧ True)) (n := t156.length) (c := co14) ?_).2.2; exact (by (with_reducible repeat (first | apply Kd.R_alloc | apply Kd.R_drewN | apply Kd.R_drew)); exact (Kd.R_mono (Kd.R_far (p := ⟨gb159, 5, none⟩) (Kd.R_far (p := ⟨gb159, 4, none⟩) (Kd.R_far (p := ⟨gb159, 3, none⟩) (Kd.R_far (p := ⟨gb159, 2, none⟩) (Kd.R_far (p := ⟨gb159, 1, none⟩) (Kd.R_far (p := ⟨gb159, 0, none⟩) (Kd.R_types HO158.out BK159.out (by decide)) (fun _ hk => hk.2) (.int .i64 1)) (fun _ hk => hk.2) (.int .i64 a1)) (fun _ hk => hk.2) (.int .i64 0)) (fun _ hk => hk.2) (.slice Ao14 t156.length co14)) (fun _ hk => hk.2) (.string (⟨#[]⟩ : ByteArray))) (fun _ hk => hk.2) (.int .i64 0)) (fun _ h_ => h_.1)))); (case side2 => exact (Kd.R_reads' HO158.out).2.1); rintro e w17 ⟨rfl, hb⟩; refine ⟨_, rfl, ?_⟩; have n0_ := Aside0.mk (Kd.R_below (by (with_reducible repeat (first | apply Kd.R_alloc | apply Kd.R_drewN | apply Kd.R_drew)); exact (Kd.R_mono (Kd.R_far (p := ⟨gb159, 5, none⟩) (Kd.R_far (p := ⟨gb159, 4, none⟩) (Kd.R_far (p := ⟨gb159, 3, none⟩) (Kd.R_far (p := ⟨gb159, 2, none⟩) (Kd.R_far (p := ⟨gb159, 1, none⟩) (Kd.R_far (p := ⟨gb159, 0, none⟩) (Kd.R_types HO158.out BK159.out (by decide)) (fun _ hk => hk.2) (.int .i64 1)) (fun _ hk => hk.2) (.int .i64 a1)) (fun _ hk => hk.2) (.int .i64 0)) (fun _ hk => hk.2) (.slice Ao14 t156.length co14)) (fun _ hk => hk.2) (.string (⟨#[]⟩ : ByteArray))) (fun _ hk => hk.2) (.int .i64 0)) (fun _ h_ => h_.1))) hb); have n1_ := Aside0.mk (blk_below (g := gb159) (o := .cells #[.int .i64 1, .int .i64 a1, .int .i64 0, .slice Ao14 t156.length co14, .string (⟨#[]⟩ : ByteArray), .int .i64 0] 50 (0, 0)) (by (with_reducible repeat (first | refine blk_drewN ?_ _ | refine blk_drew ?_ | refine blk_alloc ?_ _)); refine blk_put (cs := #[.int .i64 1, .int .i64 a1, .int .i64 0, .slice Ao14 t156.length co14, .string (⟨#[]⟩ : ByteArray), .int .i64 0]) ?_ 5 _ rfl; (with_reducible repeat (first | refine blk_drewN ?_ _ | refine blk_drew ?_ | refine blk_alloc ?_ _)); refine blk_put (cs := #[.int .i64 1, .int .i64 a1, .int .i64 0, .slice Ao14 t156.length co14, .string (⟨#[]⟩ : ByteArray), .int .i64 0]) ?_ 4 _ rfl; (with_reducible repeat (first | refine blk_drewN ?_ _ | refine blk_drew ?_ | refine blk_alloc ?_ _)); refine blk_put (cs := #[.int .i64 1, .int .i64 a1, .int .i64 0, .slice none 0 0, .string (⟨#[]⟩ : ByteArray), .int .i64 0]) ?_ 3 _ rfl; (with_reducible repeat (first | refine blk_drewN ?_ _ | refine blk_drew ?_ | refine blk_alloc ?_ _)); refine blk_put (cs := #[.int .i64 1, .int .i64 a1, .int .i64 0, .slice none 0 0, .string (⟨#[]⟩ : ByteArray), .int .i64 0]) ?_ 2 _ rfl; (with_reducible repeat (first | refine blk_drewN ?_ _ | refine blk_drew ?_ | refine blk_alloc ?_ _)); refine blk_put (cs := #[.int .i64 1, .int .i64 0, .int .i64 0, .slice none 0 0, .string (⟨#[]⟩ : ByteArray), .int .i64 0]) ?_ 1 _ rfl; (with_reducible repeat (first | refine blk_drewN ?_ _ | refine blk_drew ?_ | refine blk_alloc ?_ _)); refine blk_put (cs := #[.int .i64 0, .int .i64 0, .int .i64 0, .slice none 0 0, .string (⟨#[]⟩ : ByteArray), .int .i64 0]) ?_ 0 _ rfl; (with_reducible repeat (first | refine blk_drewN ?_ _ | refine blk_drew ?_ | refine blk_alloc ?_ _)); exact BK159.out) hb); have n2_ := Aside0.mk (below_step (by repeat (first | (with_reducible first | exact HB.out | apply below_alloc | apply pw_below_drewN | apply below_drew1 | refine below_set ?_ GE159.out) | exact HB.out)) hb); clear HO158; clear BK159; clear HB; have HO158 := n0_; have BK159 := n1_; have HB := n2_; clear n0_ n1_ n2_; (try clear hb); (try clear hb2); (try clear hk); (try clear hi); (try simp only [errW_none, errW_some])))
    go_ret
    exact ⟨_, by first | rfl | (simp [errW_none, errW_some] <;> rfl) | (simp [*, errW_none, errW_some] <;> rfl), by first | exact Kd.S_nil _ _ _ _ _ | exact Kd.N_nil _ _ _ _ _ | exact Kd.V_nil _ _ _ _ _ | exact Kd.Q_nil _ _ _ _ _ | exact Kd.R_nil _ _ _ _ _, by repeat (first | (with_reducible first | exact HB.out | apply below_alloc | apply pw_below_drewN | apply below_drew1 | refine below_set ?_ GE159.out) | exact HB.out)⟩

end Go.Proofs.Ytacdocchcfbgcaa.Q
