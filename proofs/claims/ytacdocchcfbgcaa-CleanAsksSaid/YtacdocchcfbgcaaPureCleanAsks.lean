/-
  CleanAsks, the plain law: what clean tells of a log is what the reference tells.
-/
import Derived.Test.YtacdocchcfbgcaaOCleanAsks
import Derived.Test.YtacdocchcfbgcaaPClean2
set_option linter.unusedVariables false
namespace Go.Proofs.Ytacdocchcfbgcaa.Pure
open Go.RowKit Go.Proofs.Ytacdocchcfbgcaa.Q Go.Proofs.Ytacdocchcfbgcaa.PC Go.Proofs.Ytacdocchcfbgcaa.PB Go.Proofs.YtacdocchcfbgcaaW.PrintWords Go.Proofs.YtacdocchcfbgcaaW.PrintLast

theorem asks_ints (a : List Int) (ha : a.length ≤ 9223372036854775807) : ∀ (d i : Nat), i + d = a.length → Ev (fun k => dolmenref5_Ints.l0 k a a (i : Int)) true := by
  intro d
  induction d with
  | zero =>
    intro i hi
    refine ev_succ ?_
    simp only [dolmenref5_Ints.l0]
    exact ev_neg (by omega) (ev_some rfl)
  | succ d ih =>
    intro i hi
    have hlt : i < a.length := by omega
    refine ev_succ ?_
    simp only [dolmenref5_Ints.l0]
    rw [wrap_succ hlt ha]
    exact ev_pos (by omega) (ev_pos (by omega) (ev_pos (by omega) (ev_pos (by trivial) (ih (i + 1) (by omega)))))
theorem asks_intsF (a : List Int) (ha : a.length ≤ 9223372036854775807) : Ev (fun k => dolmenref5_Ints.f k a a) true := by
  unfold dolmenref5_Ints.f
  exact ev_pos (by first | rfl | trivial) (asks_ints a ha a.length 0 (by omega))

theorem asks_l1 (l0 : List S32) (x : List S50) (kk : Int) (nd : List Int) (hx : x.length ≤ 40) (hxl : x.length = l0.length) (hd : ∀ e ∈ x, e.f3.length ≤ 4000) (hn : nd.length ≤ 40) (hi : ∀ i ∈ nd, 0 ≤ i ∧ i < (x.length : Int)) (hk : kk = nd.headD (l0.length : Int)) :
    ∀ (d i : Nat), i + d = nd.length → Ev (fun k => dolmenlaw14_CleanAsks.l1 k l0 x kk (thorL x nd) nd (i : Int)) true := by
  have hawake : Ev (fun k => (dolmenlaw14_awake.f).bind fun t => some t) true := ev_bind (ev_const rfl) (ev_some rfl)
  intro d
  induction d with
  | zero =>
    intro i hi2
    refine ev_succ ?_
    simp only [dolmenlaw14_CleanAsks.l1]
    refine ev_neg (by omega) ?_
    cases nd with
    | nil => exact ev_neg (by simp) (ev_pos (by simpa using hk) hawake)
    | cons a r => exact ev_pos (by first | (simp; done) | (simp; omega)) (ev_pos (by first | (simp; done) | (simp; omega)) (ev_pos (by rw [hk]; simp [rd]) hawake))
  | succ d ih =>
    intro i hi2
    have hlt : i < nd.length := by omega
    obtain ⟨h1, h2⟩ := hi _ (List.getElem_mem hlt)
    refine ev_succ ?_
    simp only [dolmenlaw14_CleanAsks.l1]
    rw [rd_nat hlt, wrap_succ hlt (by omega)]
    refine ev_pos (by omega) (ev_pos (by omega) (ev_pos (by simp [thorL]; omega) (ev_pos h1 (ev_pos h2 ?_))))
    have e1 : rd_T50 (thorL x nd) (i : Int) = ownE (rd_T50 x nd[i]) := by
      rw [rdE (by simpa [thorL] using hlt)]
      simp [thorL]
    rw [e1]
    refine ev_bind (same_own _ ?_) (ev_pos (by first | rfl | trivial) (ih (i + 1) (by omega)))
    obtain ⟨m, hm⟩ := Int.eq_ofNat_of_zero_le h1
    rw [hm] at h2 ⊢
    rw [rdE (by omega)]
    have := hd _ (List.getElem_mem (show m < x.length by omega))
    omega

theorem asks_l0 (l0 : List S32) (x : List S50) (sp : List S64) (kk : Int) (t : List S50) (nd : List Int) (hl : sp.length ≤ 40)
    (hk : Ev (fun k => dolmenlaw14_CleanAsks.l1 k l0 x kk t nd 0) true) :
    ∀ (d i : Nat), i + d = sp.length → Ev (fun k => dolmenlaw14_CleanAsks.l0 k l0 x sp kk t (sp.map toR) nd (i : Int)) true := by
  intro d
  induction d with
  | zero =>
    intro i hi
    refine ev_succ ?_
    simp only [dolmenlaw14_CleanAsks.l0]
    exact ev_neg (by omega) hk
  | succ d ih =>
    intro i hi
    have hlt : i < sp.length := by omega
    refine ev_succ ?_
    simp only [dolmenlaw14_CleanAsks.l0]
    rw [wrap_succ hlt (by omega), rdS hlt, rdS' (by simpa using hlt), List.getElem_map]
    exact ev_pos (by omega) (ev_pos (by omega) (ev_pos (by simp; omega) (ev_pos (by trivial) (ev_pos (by trivial) (ih (i + 1) (by omega))))))

theorem CleanAsks : Go.Proofs.Ytacdocchcfbgcaa.Q.CleanAsks.Pure := by
  intro l0 l1 hl0 hw0 hl1 hw1
  refine Ev.rounds ?_
  have hawake : Ev (fun k => (dolmenlaw14_awake.f).bind fun t => some t) true := ev_bind (ev_const rfl) (ev_some rfl)
  unfold dolmenlaw14_CleanAsks.f
  obtain ⟨b, hb, hs⟩ := small_ev2 l0 l1 hl0
  refine ev_bind hb ?_
  cases b with
  | false => exact ev_neg (by simp) hawake
  | true =>
    obtain ⟨n0, n1, n2⟩ := hs rfl
    refine ev_pos (by first | rfl | trivial) ?_
    have hd : ∀ e ∈ l0, e.f3.length ≤ 9223372036854775807 := fun e he => by have := n2 e he; omega
    have hd2 : ∀ e ∈ l0.map toE, e.f3.length ≤ 4000 := by
      intro e he
      obtain ⟨x, hx, rfl⟩ := List.mem_map.1 he
      exact n2 x hx
    have hd' : ∀ e ∈ l0.map toE, e.f3.length ≤ 9223372036854775807 := fun e he => by have := hd2 e he; omega
    have hn : (l0.map toE).length < 1954687338268 := by rw [List.length_map]; omega
    have hcl := check_log l0 hl0 hd
    refine ev_bind (made l0 (by omega)) ?_
    cases hc : chk 0 (l0.map toE) with
    | some j =>
      rw [hc] at hcl
      refine ev_bind (Spans_bad _ (by omega) hd' j hc) (ev_bind (Needed_bad _ l1 (by omega) hd' j hc) (ev_bind (Fast_bad _ l1 (by omega) hd' j hc) (ev_bind (Thorough_bad _ l1 (by omega) hd' j hc) (ev_bind hcl ?_))))
      refine ev_bind (a := 1) (ev_const (by kernel_rfl)) (ev_pos (by first | rfl | trivial) (ev_bind (a := 1) (ev_const (by kernel_rfl)) (ev_pos (by first | rfl | trivial) (ev_bind (a := 1) (ev_const (by kernel_rfl)) (ev_pos (by first | rfl | trivial) (ev_bind (a := 1) (ev_const (by kernel_rfl)) (ev_succ ?_)))))))
      simp only [dolmenlaw14_CleanAsks.j0]
      exact ev_neg (by simp [chkAt']) (ev_neg (by simp [chkAt']) (ev_pos (by first | rfl | trivial) (ev_pos (by first | rfl | trivial) (ev_pos (by first | rfl | trivial) (ev_pos (by first | rfl | trivial) hawake)))))
    | none =>
      rw [hc] at hcl
      have hp : ∀ i (h : i < l0.length), 1 ≤ l0[i].f1 := fun i h => okS_epoch (chk_le _ 0 hc _ (List.mem_map_of_mem (List.getElem_mem h)))
      have hsl : (spans (l0.map toE)).length ≤ 40 := by rw [spans_length, List.length_map]; omega
      have hnl := needs_length l1 (spans (l0.map toE)) 0
      refine ev_bind (Spans_ok _ (by omega) hd' hc) (ev_bind (Needed_ok _ l1 (by omega) hd' hc) (ev_bind (Fast_ok _ l1 (by omega) hd' hc) (ev_bind (Thorough_ok _ l1 hn (fun e he => by have := hd2 e he; omega) hc) (ev_bind hcl ?_))))
      refine ev_bind (a := 0) (ev_const (by kernel_rfl)) (ev_pos (by first | rfl | trivial) (ev_bind (a := 0) (ev_const (by kernel_rfl)) (ev_pos (by first | rfl | trivial) (ev_bind (a := 0) (ev_const (by kernel_rfl)) (ev_pos (by first | rfl | trivial) (ev_bind (a := 0) (ev_const (by kernel_rfl)) (ev_succ ?_)))))))
      simp only [dolmenlaw14_CleanAsks.j0]
      refine ev_neg (by simp [chkAt']) (ev_pos (by first | rfl | trivial) (ev_bind (RSpans_ok l0 (by omega) hp) (ev_bind (RNeeded_ok l0 l1 hl1 (by omega) hp) (ev_pos (by simp) (ev_bind (asks_intsF _ (by omega)) (ev_pos (by first | rfl | trivial) (ev_succ ?_)))))))
      simp only [dolmenlaw14_CleanAsks.j1]
      refine ev_neg (by simp [thorL]) (asks_l0 _ _ _ _ _ _ hsl ?_ _ 0 (Nat.zero_add _))
      refine asks_l1 l0 _ _ _ (by rw [List.length_map]; omega) (by rw [List.length_map]) hd2 (by omega) ?_ (by rw [List.length_map]) _ 0 (Nat.zero_add _)
      intro i hi
      have := needs_lt l1 hi
      rw [spans_length] at this
      exact ⟨by have := needs_ge l1 hi; omega, by omega⟩
end Go.Proofs.Ytacdocchcfbgcaa.Pure
