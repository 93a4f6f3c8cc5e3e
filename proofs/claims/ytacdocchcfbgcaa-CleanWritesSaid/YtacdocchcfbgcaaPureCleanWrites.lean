/-
  CleanWrites, the plain law: of writes of one place the last is needed, and those at whose epoch a snapshot was taken.
-/
import Derived.Test.YtacdocchcfbgcaaOCleanWrites
import Derived.Test.YtacdocchcfbgcaaPClean2
set_option linter.unusedVariables false
set_option linter.unusedSimpArgs false
namespace Go.Proofs.Ytacdocchcfbgcaa.Pure
open Go.RowKit Go.Proofs.Ytacdocchcfbgcaa.Q Go.Proofs.Ytacdocchcfbgcaa.PC Go.Proofs.Ytacdocchcfbgcaa.PB Go.Proofs.YtacdocchcfbgcaaW.PrintWords Go.Proofs.YtacdocchcfbgcaaW.PrintLast

def cwD (n : Nat) (z : Bool) (i : Nat) : Int := if i + 1 < n then (i : Int) + 2 else if z = true then (n : Int) + 1 else 0
def cwS (n : Nat) (z : Bool) : List (Int × Int) := (List.range n).map (fun i : Nat => ((i : Int) + 1, cwD n z i)) ++ (if z = true then [((n : Int) + 1, 0)] else [])
theorem cw_all : ((List.range 31).all fun n => [true, false].all fun z => (chk 0 (cwZ n z)).isNone && ((cwZ n z).all fun e => decide (e.f3.length < 140737488355328)) && decide ((cwZ n z).length ≤ 31) && ((spans (cwZ n z)).map (fun s => (s.f0, s.f1)) == cwS n z)) = true := by kernel_rfl
theorem cw_one {n : Nat} (hn : n ≤ 30) (z : Bool) : chk 0 (cwZ n z) = none ∧ (∀ e ∈ cwZ n z, e.f3.length < 140737488355328) ∧ (cwZ n z).length ≤ 31 ∧ (spans (cwZ n z)).map (fun s => (s.f0, s.f1)) = cwS n z := by
  have h := List.all_eq_true.1 cw_all n (List.mem_range.2 (by omega))
  have h := List.all_eq_true.1 h z (by cases z <;> simp)
  rw [Bool.and_eq_true, Bool.and_eq_true, Bool.and_eq_true] at h
  refine ⟨Option.isNone_iff_eq_none.1 h.1.1.1, fun e he => ?_, of_decide_eq_true h.1.2, by simpa using h.2⟩
  exact of_decide_eq_true (List.all_eq_true.1 h.1.1.2 e he)

def lvP (e : List Int) (p : Int × Int) : Bool := Go.Proofs.Ytacdocchcfbgcaa.HLives.livesB p.1 p.2 e
theorem needs_count (e : List Int) : ∀ (l : List S64) (i : Nat), (needs e i l).length = (l.map (fun s => (s.f0, s.f1))).countP (lvP e)
  | [], i => by simp [needs]
  | s :: r, i => by
    have ih := needs_count e r (i + 1)
    rw [List.map_cons, List.countP_cons]
    unfold needs
    have hs : lv e s = lvP e (s.f0, s.f1) := rfl
    cases h : lvP e (s.f0, s.f1) with
    | true => rw [if_pos (by rw [hs, h])]; simp [ih, h]
    | false => rw [if_neg (by rw [hs, h]; simp)]; simp [ih, h]
theorem cw_lv (n : Nat) (z : Bool) (l : List Int) (i : Nat) (hi : i < n) (hz : i + 1 < n ∨ z = true) : lvP l ((i : Int) + 1, cwD n z i) = cwK n z l (i + 1) := by
  unfold lvP Go.Proofs.Ytacdocchcfbgcaa.HLives.livesB cwD cwK
  have hp : ∀ e : Int, Go.Proofs.Ytacdocchcfbgcaa.HLives.holdsB ((i : Int) + 1) ((i : Int) + 2) e = (e == ((i + 1 : Nat) : Int)) := by
    intro e
    unfold Go.Proofs.Ytacdocchcfbgcaa.HLives.holdsB
    rw [Bool.eq_iff_iff]
    simp
    omega
  by_cases h : i + 1 < n
  · rw [if_pos h, decide_eq_false (show ¬ (i : Int) + 2 = 0 by omega), Bool.false_or, decide_eq_true h, Bool.true_or, Bool.and_true]
    congr 1
    funext e
    exact hp e
  · obtain rfl : n = i + 1 := by omega
    have hz' : z = true := by rcases hz with h2 | h2; exact absurd h2 h; exact h2
    rw [if_neg h, if_pos hz', hz', decide_eq_false (show ¬ ((i + 1 : Nat) : Int) + 1 = 0 by omega), Bool.false_or, Bool.or_true, Bool.and_true]
    congr 1
    funext e
    rw [← hp e]
    congr 1
theorem cw_count (n : Nat) (z : Bool) (l : List Int) : ∀ m, m ≤ n → (m < n ∨ z = true) → ((List.range m).map fun i : Nat => ((i : Int) + 1, cwD n z i)).countP (lvP l) = cwC n z l m
  | 0, _, _ => rfl
  | m + 1, hm, hz => by
    have ih := cw_count n z l m (by omega) (by omega)
    rw [List.range_succ, List.map_append, List.countP_append, ih]
    show _ = cwC n z l m + (if cwK n z l (m + 1) = true then 1 else 0)
    rw [List.map_cons, List.map_nil, List.countP_cons, List.countP_nil, cw_lv n z l m (by omega) hz]
    cases cwK n z l (m + 1) <;> simp

theorem CleanWrites : Go.Proofs.Ytacdocchcfbgcaa.Q.CleanWrites.Pure := by
  intro a0 a1 l2 hw0 hl2 hw2
  refine Ev.rounds ?_
  unfold dolmenlaw14_CleanWrites.f
  refine ev_ite (fun _ => ev_some rfl) fun h => ?_
  obtain ⟨n, rfl⟩ := Int.eq_ofNat_of_zero_le (show 0 ≤ a0 by omega)
  rw [Int.toNat_natCast]
  obtain ⟨hc, hd, hl, hs⟩ := cw_one (show n ≤ 30 by omega) a1
  refine ev_bind (Thorough_ok (cwZ n a1) l2 (by omega) hd hc) (ev_pos rfl (ev_some ?_))
  refine decide_eq_true ?_
  unfold thorL
  rw [List.length_map, needs_count, hs]
  unfold cwS
  rw [List.countP_append]
  cases a1 with
  | true =>
    rw [cw_count n true l2 n (Nat.le_refl _) (.inr rfl), if_pos rfl, List.countP_cons, List.countP_nil]
    have : lvP l2 ((n : Int) + 1, 0) = true := by unfold lvP Go.Proofs.Ytacdocchcfbgcaa.HLives.livesB; simp
    rw [this]
    simp
    omega
  | false =>
    obtain ⟨m, rfl⟩ : ∃ m, n = m + 1 := ⟨n - 1, by omega⟩
    have e1 : (List.range (m + 1)).map (fun i : Nat => ((i : Int) + 1, cwD (m + 1) false i)) = (List.range m).map (fun i : Nat => ((i : Int) + 1, cwD (m + 1) false i)) ++ [((m : Int) + 1, cwD (m + 1) false m)] := by rw [List.range_succ, List.map_append]; rfl
    have e2 : lvP l2 ((m : Int) + 1, cwD (m + 1) false m) = true := by
      unfold lvP Go.Proofs.Ytacdocchcfbgcaa.HLives.livesB cwD
      simp
    have e3 : cwC (m + 1) false l2 (m + 1) = cwC (m + 1) false l2 m := by
      show cwC (m + 1) false l2 m + (if cwK (m + 1) false l2 (m + 1) = true then 1 else 0) = _
      unfold cwK
      simp
    rw [e1, List.countP_append, cw_count (m + 1) false l2 m (by omega) (.inl (by omega)), e3, List.countP_cons, List.countP_nil, e2]
    simp
    omega
end Go.Proofs.Ytacdocchcfbgcaa.Pure
