/-
  CleanNames, the plain law: of a name that was given n times the last entry is needed, and those at whose epoch a snapshot was taken.
-/
import Derived.Test.YtacdocchcfbgcaaOCleanNames
import Derived.Test.YtacdocchcfbgcaaPClean
set_option linter.unusedVariables false
namespace Go.Proofs.Ytacdocchcfbgcaa.Pure
open Go.RowKit Go.Proofs.Ytacdocchcfbgcaa.Q Go.Proofs.Ytacdocchcfbgcaa.PC Go.Proofs.Ytacdocchcfbgcaa.PB Go.Proofs.YtacdocchcfbgcaaW.PrintWords Go.Proofs.YtacdocchcfbgcaaW.PrintLast

def nmE (i : Nat) : S50 := ⟨3, ((i + 1 : Nat) : Int), 0, [], ⟨#[97]⟩, ((i + 1 : Nat) : Int)⟩
def nmL : Nat → List S50
  | 0 => []
  | i + 1 => nmL i ++ [nmE i]
theorem nmL_length : ∀ i, (nmL i).length = i
  | 0 => rfl
  | i + 1 => by simp [nmL, nmL_length i]
def nmS (n i : Nat) : Int × Int := (((i + 1 : Nat) : Int), if i + 1 < n then ((i + 2 : Nat) : Int) else 0)
theorem nm_all : ((List.range 41).all fun n => (chk 0 (nmL n)).isNone && ((nmL n).all fun e => decide (e.f3.length ≤ 9223372036854775807)) && ((spans (nmL n)).map (fun s => (s.f0, s.f1)) == (List.range n).map (nmS n))) = true := by kernel_rfl
theorem nm_one {n : Nat} (hn : n ≤ 40) : chk 0 (nmL n) = none ∧ (∀ e ∈ nmL n, e.f3.length ≤ 9223372036854775807) ∧ (spans (nmL n)).map (fun s => (s.f0, s.f1)) = (List.range n).map (nmS n) := by
  have h := List.all_eq_true.1 nm_all n (List.mem_range.2 (by omega))
  rw [Bool.and_eq_true, Bool.and_eq_true] at h
  refine ⟨Option.isNone_iff_eq_none.1 h.1.1, fun e he => ?_, by simpa using h.2⟩
  exact of_decide_eq_true (List.all_eq_true.1 h.1.2 e he)
theorem nm_span {n i : Nat} (hn : n ≤ 40) (hi : i < (spans (nmL n)).length) : (spans (nmL n))[i].f0 = ((i + 1 : Nat) : Int) ∧ (spans (nmL n))[i].f1 = if i + 1 < n then ((i + 2 : Nat) : Int) else 0 := by
  have h := (nm_one hn).2.2
  have hl : i < n := by rw [spans_length, nmL_length] at hi; exact hi
  have h1 : ((spans (nmL n)).map (fun s => (s.f0, s.f1)))[i]? = ((List.range n).map (nmS n))[i]? := by rw [h]
  rw [List.getElem?_map, List.getElem?_map, List.getElem?_eq_getElem hi, List.getElem?_range hl] at h1
  simp [nmS] at h1
  exact ⟨by rw [h1.1]; omega, by rw [h1.2]; split <;> omega⟩

/-- Is an entry kept? -/
def keepN (n : Nat) (l : List Int) (i : Nat) : Bool := decide (i + 1 = n) || l.any fun e => e == ((i + 1 : Nat) : Int)
theorem nm_lv {n i : Nat} (l : List Int) (hn : n ≤ 40) (hi : i < (spans (nmL n)).length) : lv l (spans (nmL n))[i] = keepN n l i := by
  obtain ⟨h0, h1⟩ := nm_span hn hi
  have hl : i < n := by rw [spans_length, nmL_length] at hi; exact hi
  unfold lv Go.Proofs.Ytacdocchcfbgcaa.HLives.livesB keepN
  rw [h0, h1]
  by_cases h : i + 1 < n
  · rw [if_pos h, decide_eq_false (show ¬ ((i + 2 : Nat) : Int) = 0 by omega), decide_eq_false (show ¬ i + 1 = n by omega), Bool.false_or, Bool.false_or]
    have hp : ∀ e : Int, Go.Proofs.Ytacdocchcfbgcaa.HLives.holdsB ((i + 1 : Nat) : Int) ((i + 2 : Nat) : Int) e = (e == ((i + 1 : Nat) : Int)) := by
      intro e
      unfold Go.Proofs.Ytacdocchcfbgcaa.HLives.holdsB
      rw [Bool.eq_iff_iff]
      simp
      omega
    congr 1
    funext e
    exact hp e
  · rw [if_neg h, decide_eq_true (show i + 1 = n by omega)]
    simp
/-- What is wanted, from i on. -/
def wantN (n : Nat) (l : List Int) (i : Nat) : Nat → List Int
  | 0 => []
  | d + 1 => if keepN n l i = true then (i : Int) :: wantN n l (i + 1) d else wantN n l (i + 1) d
theorem needs_want {n : Nat} (l : List Int) (hn : n ≤ 40) : ∀ (d i : Nat), i + d = n → needs l i ((spans (nmL n)).drop i) = wantN n l i d
  | 0, i, h => by
    rw [List.drop_eq_nil_of_le (by rw [spans_length, nmL_length]; omega)]
    rfl
  | d + 1, i, h => by
    have hi : i < (spans (nmL n)).length := by rw [spans_length, nmL_length]; omega
    rw [List.drop_eq_getElem_cons hi]
    show (if lv l (spans (nmL n))[i] = true then (i : Int) :: needs l (i + 1) _ else needs l (i + 1) _) = if keepN n l i = true then _ else _
    rw [nm_lv l hn hi, needs_want l hn d (i + 1) (by omega)]
theorem wantN_length (n : Nat) (l : List Int) : ∀ (d i : Nat), (wantN n l i d).length ≤ d
  | 0, i => by simp [wantN]
  | d + 1, i => by
    have := wantN_length n l d (i + 1)
    unfold wantN
    split <;> simp <;> omega

/-! ### two lists -/
theorem ints_same (a : List Int) (ha : a.length ≤ 9223372036854775807) : ∀ (d i : Nat), i + d = a.length → Ev (fun k => dolmenref5_Ints.l0 k a a (i : Int)) true := by
  intro d
  induction d with
  | zero =>
    intro i hi
    refine ev_succ ?_
    simp only [dolmenref5_Ints.l0]
    exact ev_neg (by omega) (ev_some rfl)
  | succ d ih =>
    intro i hi
    have hlt : i < a.length := by omega
    refine ev_succ ?_
    simp only [dolmenref5_Ints.l0]
    rw [wrap_succ hlt ha]
    exact ev_pos (by omega) (ev_pos (by omega) (ev_pos (by omega) (ev_pos (by trivial) (ih (i + 1) (by omega)))))
theorem ints_self (a : List Int) (ha : a.length ≤ 9223372036854775807) : Ev (fun k => dolmenref5_Ints.f k a a) true := by
  unfold dolmenref5_Ints.f
  exact ev_pos rfl (ints_same a ha a.length 0 (by omega))

theorem names_l2 (n : Nat) (l nd acc : List Int) (i : Nat) (hn : n ≤ 40) (hi : i < n) (hl : l.length ≤ 20) (ha : acc.length ≤ 40) (r : Bool) :
    ∀ (d j : Nat) (met : Bool), j + d = l.length →
      Ev (fun k => dolmenlaw14_CleanNames.l1 k (n : Int) l nd (if (met || (l.drop j).any fun e => e == ((i + 1 : Nat) : Int)) = true then acc ++ [(i : Int)] else acc) ((i + 1 : Nat) : Int)) r →
      Ev (fun k => dolmenlaw14_CleanNames.l2 k (n : Int) l nd acc (i : Int) met (j : Int)) r := by
  intro d
  induction d with
  | zero =>
    intro j met hj hk
    rw [List.drop_eq_nil_of_le (by omega)] at hk
    refine ev_succ ?_
    simp only [dolmenlaw14_CleanNames.l2]
    rw [wrap_succ hi (by omega)]
    refine ev_neg (by omega) ?_
    cases met with
    | true => exact ev_pos rfl (ev_pos (by omega) (by simpa using hk))
    | false => exact ev_neg (by simp) (by simpa using hk)
  | succ d ih =>
    intro j met hj hk
    have hlt : j < l.length := by omega
    rw [List.drop_eq_getElem_cons hlt, List.any_cons] at hk
    refine ev_succ ?_
    simp only [dolmenlaw14_CleanNames.l2]
    rw [wrap_succ hi (by omega), wrap_succ hlt (by omega)]
    refine ev_pos (by omega) ?_
    cases met with
    | true => exact ev_pos rfl (ih (j + 1) true (by omega) (by simpa using hk))
    | false =>
      refine ev_neg (by simp) (ev_pos (by omega) ?_)
      rw [rd_nat hlt]
      refine ih (j + 1) _ (by omega) ?_
      simpa using hk

theorem names_l1 (n : Nat) (l nd : List Int) (hn : n ≤ 40) (hl : l.length ≤ 20) (hnd : nd.length ≤ 40) :
    ∀ (d i : Nat) (acc : List Int), i + d = n → acc.length ≤ i → acc ++ wantN n l i d = nd → Ev (fun k => dolmenlaw14_CleanNames.l1 k (n : Int) l nd acc (i : Int)) true := by
  intro d
  induction d with
  | zero =>
    intro i acc hi ha he
    refine ev_succ ?_
    simp only [dolmenlaw14_CleanNames.l1]
    refine ev_neg (by omega) ?_
    have : acc = nd := by simpa [wantN] using he
    subst this
    exact ev_bind (ints_self acc (by omega)) (ev_pos rfl (ev_bind (ev_const rfl) (ev_some rfl)))
  | succ d ih =>
    intro i acc hi ha he
    have hlt : i < n := by omega
    refine ev_succ ?_
    simp only [dolmenlaw14_CleanNames.l1]
    refine ev_pos (by omega) ?_
    rw [wrap_in (x := (n : Int) - 1) (by omega) (by omega)]
    have e1 : ((i : Int) == (n : Int) - 1) = decide (i + 1 = n) := by
      rw [Bool.eq_iff_iff]
      simp
      omega
    rw [e1]
    refine names_l2 n l nd acc i hn hlt hl (by omega) true l.length 0 _ (by omega) ?_
    rw [List.drop_zero]
    show Ev (fun k => dolmenlaw14_CleanNames.l1 k (n : Int) l nd (if keepN n l i = true then _ else _) _) true
    unfold wantN at he
    by_cases hk : keepN n l i = true
    · rw [if_pos hk] at he ⊢
      exact ih (i + 1) _ (by omega) (by simp; omega) (by rw [List.append_assoc]; exact he)
    · rw [if_neg hk] at he ⊢
      exact ih (i + 1) _ (by omega) (by omega) he

theorem names_l0 (n : Nat) (l : List Int) (hn : n ≤ 40) (hl : l.length ≤ 20) : ∀ (d i : Nat), i + d = n → Ev (fun k => dolmenlaw14_CleanNames.l0 k (n : Int) l (nmL i) (i : Int)) true := by
  intro d
  induction d with
  | zero =>
    intro i hi
    have hin : i = n := by omega
    subst hin
    refine ev_succ ?_
    simp only [dolmenlaw14_CleanNames.l0]
    obtain ⟨hc, hw, _⟩ := nm_one hn
    refine ev_neg (by omega) (ev_bind (Needed_ok _ l (by rw [nmL_length]; omega) hw hc) (ev_pos rfl ?_))
    have h := needs_want l hn i 0 (by omega)
    rw [List.drop_zero] at h
    simp only [h]
    exact names_l1 i l _ hn hl (Nat.le_trans (wantN_length _ _ _ _) hn) i 0 [] (by omega) (by simp) (by simp)
  | succ d ih =>
    intro i hi
    refine ev_succ ?_
    simp only [dolmenlaw14_CleanNames.l0]
    rw [wrap_succ (show i < n by omega) (by omega)]
    exact ev_pos (by omega) (ev_pos (by rw [nmL_length]; omega) (ih (i + 1) (by omega)))

theorem CleanNames : Go.Proofs.Ytacdocchcfbgcaa.Q.CleanNames.Pure := by
  intro a0 l1 hw0 hl1 hw1
  refine Ev.rounds ?_
  have hawake : Ev (fun k => dolmenlaw14_CleanNames.j0 k a0 l1 true) true := by
    refine ev_succ ?_
    simp only [dolmenlaw14_CleanNames.j0]
    exact ev_pos (by trivial) (ev_bind (ev_const rfl) (ev_some rfl))
  unfold dolmenlaw14_CleanNames.f
  refine ev_ite (fun _ => hawake) fun h0 => ev_ite (fun _ => hawake) fun h1 => ?_
  by_cases h2 : (l1.length : Int) > 20
  · rw [decide_eq_true h2]
    exact hawake
  · rw [decide_eq_false h2]
    refine ev_succ ?_
    simp only [dolmenlaw14_CleanNames.j0]
    obtain ⟨n, rfl⟩ := Int.eq_ofNat_of_zero_le (show 0 ≤ a0 by omega)
    exact ev_neg (by simp) (names_l0 n l1 (by omega) (by omega) n 0 (by omega))

end Go.Proofs.Ytacdocchcfbgcaa.Pure
