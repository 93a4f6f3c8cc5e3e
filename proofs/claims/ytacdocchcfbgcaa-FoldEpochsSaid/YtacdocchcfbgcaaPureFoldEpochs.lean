/-
  FoldEpochs, the plain law: at an epoch a log makes what its entries up to it make; behind the last one it is the whole.
-/
import Derived.Test.YtacdocchcfbgcaaOFoldEpochs
import Derived.Test.YtacdocchcfbgcaaEPLog
set_option linter.unusedVariables false
set_option linter.unusedSimpArgs false
namespace Go.Proofs.Ytacdocchcfbgcaa.Pure
open Go.RowKit Go.Proofs.Ytacdocchcfbgcaa.Q Go.Proofs.Ytacdocchcfbgcaa.PC Go.Proofs.Ytacdocchcfbgcaa.PB Go.Proofs.YtacdocchcfbgcaaW.PrintWords Go.Proofs.YtacdocchcfbgcaaW.PrintLast Go.Proofs.YtacdocchcfbgcaaW.PrintMore

theorem awake_ev : Ev (fun k => (dolmenlaw13_awake.f).bind fun t => some t) true := ev_bind (ev_const rfl) (ev_some rfl)
/-- Where the entries rise, those up to an epoch are the first ones. -/
theorem filter_take (L : List S50) (ep : Int) (c : Nat) (hc : c ≤ L.length) (h1 : ∀ (j : Nat) (h : j < L.length), j < c → L[j].f1 ≤ ep) (h2 : ∀ (j : Nat) (h : j < L.length), c ≤ j → ¬ L[j].f1 ≤ ep) :
    (L.filter fun e => decide (e.f1 ≤ ep)) = L.take c := by
  have e1 : L = L.take c ++ L.drop c := (List.take_append_drop c L).symm
  rw [e1, List.filter_append]
  have a1 : (L.take c).filter (fun e => decide (e.f1 ≤ ep)) = L.take c := by
    rw [List.filter_eq_self]
    intro e he
    obtain ⟨j, hj, rfl⟩ := List.getElem_of_mem he
    rw [List.length_take] at hj
    rw [List.getElem_take]
    exact decide_eq_true (h1 j (by omega) (by omega))
  have a2 : (L.drop c).filter (fun e => decide (e.f1 ≤ ep)) = [] := by
    rw [List.filter_eq_nil_iff]
    intro e he
    obtain ⟨j, hj, rfl⟩ := List.getElem_of_mem he
    rw [List.length_drop] at hj
    rw [List.getElem_drop, decide_eq_true_iff]
    exact h2 (c + j) (by omega) (by omega)
  rw [a1, a2, List.append_nil, ← e1]
theorem filter_all (L : List S50) (ep : Int) (h : ∀ (j : Nat) (h : j < L.length), L[j].f1 ≤ ep) : (L.filter fun e => decide (e.f1 ≤ ep)) = L := by
  rw [List.filter_eq_self]
  intro e he
  obtain ⟨j, hj, rfl⟩ := List.getElem_of_mem he
  exact decide_eq_true (h j hj)

theorem fe_j2 (L : List S50) (ep : Int) (c : Nat) (hl : L.length ≤ 50) (hd : ∀ e ∈ L, e.f3.length ≤ 9223372036854775807) (hc : c ≤ L.length) (b : Bool)
    (h : b = false → (∀ (j : Nat) (h : j < L.length), j < c → L[j].f1 ≤ ep ∧ L[j].f1 ≤ 1099511627776) ∧ ∀ (j : Nat) (h : j < L.length), c ≤ j → ¬ L[j].f1 ≤ ep) :
    Ev (fun k => dolmenlaw13_FoldEpochs.j2 k ep (c : Int) L (nmL (dirL L ep [])) (noL (dirL L ep [])) (nmL (dirL (L.take c) 1099511627776 [])) (noL (dirL (L.take c) 1099511627776 [])) b) true := by
  cases b with
  | true =>
    refine ev_succ ?_
    simp only [dolmenlaw13_FoldEpochs.j2]
    exact ev_pos trivial awake_ev
  | false =>
    obtain ⟨h1, h2⟩ := h rfl
    have f1 := filter_take L ep c hc (fun j hj hjc => (h1 j hj hjc).1) h2
    have f2 : ((L.take c).filter fun e => decide (e.f1 ≤ (1099511627776 : Int))) = L.take c := by
      refine filter_all _ _ fun j hj => ?_
      rw [List.length_take] at hj
      rw [List.getElem_take]
      exact (h1 j (by omega) (by omega)).2
    have ed : dirL L ep [] = dirL (L.take c) 1099511627776 [] := by unfold dirL; rw [f1, f2]
    have ef : fileL L ep [] = fileL (L.take c) 1099511627776 [] := by unfold fileL; rw [f1, f2]
    have hdl := dirL_le (L.take c) 1099511627776
    rw [List.length_take] at hdl
    refine ev_succ ?_
    simp only [dolmenlaw13_FoldEpochs.j2]
    rw [ed]
    refine ev_neg (by decide) (ev_bind (file_ev L ep (by omega) hd) (ev_pos (by omega) (ev_pos (by omega) ?_)))
    rw [Int.toNat_natCast, ef]
    refine ev_bind (file_ev (L.take c) _ (by rw [List.length_take]; omega) (fun e he => hd e (List.mem_of_mem_take he))) (ev_pos rfl ?_)
    refine ev_bind (texts_self _ (by unfold nmL; rw [List.length_map]; omega)) (ev_pos rfl (ev_bind (ints_self _ (by unfold noL; rw [List.length_map]; omega)) (ev_pos rfl awake_ev)))

theorem fe_end (l : List S32) (ep : Int) (hl : l.length ≤ 50) (hd : ∀ e ∈ l, e.f3.length ≤ 9223372036854775807) (c : Nat) (hc : c ≤ l.length)
    (hs : ∀ (j : Nat) (h : j + 1 < l.length), l[j].f1 ≤ l[j + 1].f1) (h1 : ∀ (h : 0 < c), (l[c - 1]'(by omega)).f1 ≤ ep) (h2 : ∀ (j : Nat) (h : j < l.length), c ≤ j → ¬ l[j].f1 ≤ ep) :
    Ev (fun k => dolmenlaw13_FoldEpochs.l0 k l ep (c : Int) (l.length : Int)) true := by
  have hmono : ∀ (d i : Nat) (h : i + d < l.length), l[i].f1 ≤ l[i + d].f1 := by
    intro d
    induction d with
    | zero => intro i h; exact Int.le_refl _
    | succ d ih => intro i h; exact Int.le_trans (ih i (by omega)) (hs (i + d) h)
  have hm : ∀ (i j : Nat) (h : j < l.length) (hij : i ≤ j), (l[i]'(by omega)).f1 ≤ l[j].f1 := by
    intro i j h hij
    have := hmono (j - i) i (by omega)
    have e : i + (j - i) = j := by omega
    simp only [e] at this
    exact this
  have hLl : (l.map toE).length = l.length := List.length_map _
  have hdE : ∀ e ∈ l.map toE, e.f3.length ≤ 9223372036854775807 := by
    intro e he
    obtain ⟨x, hx, rfl⟩ := List.mem_map.1 he
    exact hd x hx
  have hLc : ∀ (j : Nat) (h : j < (l.map toE).length), (l.map toE)[j].f1 = (l[j]'(by omega)).f1 := by intro j h; rw [List.getElem_map]; rfl
  refine ev_succ ?_
  simp only [dolmenlaw13_FoldEpochs.l0]
  refine ev_neg (by omega) (ev_bind (fs_made l (by omega)) (ev_bind (dir_ev (l.map toE) ep (by omega) hdE) (ev_pos (by omega) (ev_pos (by omega) ?_))))
  rw [Int.toNat_natCast]
  refine ev_bind (dir_ev ((l.map toE).take c) 1099511627776 (by rw [List.length_take]; omega) (fun e he => hdE e (List.mem_of_mem_take he))) ?_
  have key : ∀ b : Bool, (b = false → 0 < c → (l[c - 1]?.map (·.f1)).getD 0 ≤ 1099511627776) → Ev (fun k => dolmenlaw13_FoldEpochs.j2 k ep (c : Int) (l.map toE) (nmL (dirL (l.map toE) ep [])) (noL (dirL (l.map toE) ep [])) (nmL (dirL ((l.map toE).take c) 1099511627776 [])) (noL (dirL ((l.map toE).take c) 1099511627776 [])) b) true := by
    intro b hb
    refine fe_j2 (l.map toE) ep c (by omega) hdE (by omega) b fun hbf => ⟨fun j h hjc => ?_, fun j h hjc => ?_⟩
    · rw [hLc j h]
      have hle := hm j (c - 1) (by omega) (by omega)
      have hb' := hb hbf (by omega)
      rw [List.getElem?_eq_getElem (show c - 1 < l.length by omega)] at hb'
      exact ⟨Int.le_trans hle (h1 (by omega)), Int.le_trans hle hb'⟩
    · rw [hLc j h]
      exact h2 j (by omega) hjc
  have last : Ev (fun k => if (c : Int) > 0 then (if 0 ≤ wrap64 ((c : Int) - 1) then (if wrap64 ((c : Int) - 1) < (l.length : Int) then (dolmenlaw13_FoldEpochs.j2 k ep (c : Int) (l.map toE) (nmL (dirL (l.map toE) ep [])) (noL (dirL (l.map toE) ep [])) (nmL (dirL ((l.map toE).take c) 1099511627776 [])) (noL (dirL ((l.map toE).take c) 1099511627776 [])) (decide (((rd_T32 l (wrap64 ((c : Int) - 1))).f1) > 1099511627776))) else none) else none) else (dolmenlaw13_FoldEpochs.j2 k ep (c : Int) (l.map toE) (nmL (dirL (l.map toE) ep [])) (noL (dirL (l.map toE) ep [])) (nmL (dirL ((l.map toE).take c) 1099511627776 [])) (noL (dirL ((l.map toE).take c) 1099511627776 [])) false)) true := by
    by_cases hc0 : 0 < c
    · have e1 : wrap64 ((c : Int) - 1) = ((c - 1 : Nat) : Int) := by rw [wrap_in (by omega) (by omega)]; omega
      rw [e1, rdR (show c - 1 < l.length by omega)]
      refine ev_pos (by omega) (ev_pos (by omega) (ev_pos (by omega) (key _ fun hb _ => ?_)))
      rw [List.getElem?_eq_getElem (show c - 1 < l.length by omega)]
      have := of_decide_eq_false hb
      show l[c - 1].f1 ≤ _
      omega
    · exact ev_neg (by omega) (key false fun _ h => absurd h hc0)
  by_cases hcl : c < l.length
  · refine ev_pos (by omega) ?_
    rw [rdR hcl]
    exact ev_neg (h2 c hcl (Nat.le_refl _)) last
  · exact ev_neg (by omega) last

theorem fe_l0 (l : List S32) (ep : Int) (hl : l.length ≤ 50) (hd : ∀ e ∈ l, e.f3.length ≤ 9223372036854775807) :
    ∀ (n i c : Nat), i + n = l.length → c ≤ i → (∀ (j : Nat) (h : j + 1 < l.length), j + 1 < i → l[j].f1 ≤ l[j + 1].f1) → (∀ (h : 0 < c) (h' : c ≤ l.length), (l[c - 1]'(by omega)).f1 ≤ ep) → (∀ (j : Nat) (h : j < l.length), c ≤ j → j < i → ¬ l[j].f1 ≤ ep) →
      Ev (fun k => dolmenlaw13_FoldEpochs.l0 k l ep (c : Int) (i : Int)) true := by
  intro n
  induction n with
  | zero =>
    intro i c hi hci hs h1 h2
    obtain rfl : i = l.length := by omega
    exact fe_end l ep hl hd c hci (fun j h => hs j h h) (fun h => h1 h hci) (fun j h hj => h2 j h hj h)
  | succ n ih =>
    intro i c hi hci hs h1 h2
    have hlt : i < l.length := by omega
    have step : (0 < i → (l[i - 1]'(by omega)).f1 ≤ l[i].f1) → Ev (fun k => dolmenlaw13_FoldEpochs.j1 k l ep (c : Int) (i : Int) false) true := by
      intro hle
      have hs' : ∀ (j : Nat) (h : j + 1 < l.length), j + 1 < i + 1 → l[j].f1 ≤ l[j + 1].f1 := by
        intro j h hj
        by_cases hji : j + 1 < i
        · exact hs j h hji
        · have e : i = j + 1 := by omega
          have := hle (by omega)
          simp only [e, Nat.add_sub_cancel] at this
          exact this
      refine ev_succ ?_
      simp only [dolmenlaw13_FoldEpochs.j1]
      refine ev_neg (by decide) (ev_pos (by omega) (ev_pos (by omega) ?_))
      rw [rdR hlt, wrap_succ hlt (by omega)]
      by_cases hq : l[i].f1 ≤ ep
      · refine ev_pos hq (ih (i + 1) (i + 1) (by omega) (Nat.le_refl _) hs' (fun h h' => ?_) (fun j h hj hj2 => by omega))
        exact hq
      · refine ev_neg hq (ih (i + 1) c (by omega) (by omega) hs' h1 (fun j h hj hj2 => ?_))
        by_cases hji : j < i
        · exact h2 j h hj hji
        · obtain rfl : j = i := by omega
          exact hq
    refine ev_succ ?_
    simp only [dolmenlaw13_FoldEpochs.l0]
    refine ev_pos (by omega) ?_
    by_cases hi0 : 0 < i
    · have e1 : wrap64 ((i : Int) - 1) = ((i - 1 : Nat) : Int) := by rw [wrap_in (by omega) (by omega)]; omega
      rw [e1, rdR hlt, rdR (show i - 1 < l.length by omega)]
      refine ev_pos (by omega) (ev_pos (by omega) (ev_pos (by omega) (ev_pos (by omega) ?_)))
      by_cases hq : l[i].f1 < l[i - 1].f1
      · rw [decide_eq_true hq]
        refine ev_succ ?_
        simp only [dolmenlaw13_FoldEpochs.j1]
        exact ev_pos trivial awake_ev
      · rw [decide_eq_false hq]
        exact step fun _ => by omega
    · exact ev_neg (by omega) (step fun h => absurd h hi0)

theorem FoldEpochs : Go.Proofs.Ytacdocchcfbgcaa.Q.FoldEpochs.Pure := by
  intro l0 a1 hl0 hw0 hw1
  refine Ev.rounds ?_
  unfold dolmenlaw13_FoldEpochs.f
  obtain ⟨b, hb, hs⟩ := fs_small l0 hl0
  refine ev_bind hb ?_
  cases b with
  | false => exact ev_neg (by simp) awake_ev
  | true =>
    have hd : ∀ e ∈ l0, e.f3.length ≤ 9223372036854775807 := fun e he => (hw0 e he).2.2.2.1.1
    exact ev_pos rfl (fe_l0 l0 a1 (hs rfl) hd l0.length 0 0 (by omega) (Nat.le_refl _) (fun j h hj => by omega) (fun h => absurd h (Nat.lt_irrefl 0)) (fun j h hj hj2 => by omega))
end Go.Proofs.Ytacdocchcfbgcaa.Pure
