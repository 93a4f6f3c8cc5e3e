/-
  clean, the rest: Thorough, what is said of what is no log, the reference's spans.
-/
import Derived.Test.YtacdocchcfbgcaaPClean
import Derived.Test.YtacdocchcfbgcaaQx11
import Derived.Test.YtacdocchcfbgcaaQx16
import Derived.Test.YtacdocchcfbgcaaQx14
set_option linter.unusedSimpArgs false
set_option linter.unusedVariables false
namespace Go.Proofs.Ytacdocchcfbgcaa.PC
open Go.RowKit Go.Proofs.Ytacdocchcfbgcaa.Q Go.Proofs.YtacdocchcfbgcaaW.PrintWords Go.Proofs.YtacdocchcfbgcaaW.PrintLast Go.Proofs.YtacdocchcfbgcaaW.PrintMore Go.Proofs.Ytacdocchcfbgcaa.PB

/-! ### no log -/
theorem Spans_bad (l : List S50) (hl : l.length < 8796093022208) (hw : ∀ e ∈ l, e.f3.length ≤ 9223372036854775807) (j : Nat) (hc : chk 0 l = some j) :
    Ev (fun k => clean_Spans.f k l) ([], some 1) := by
  unfold clean_Spans.f
  have h1 := fold_check l (by omega) hw
  rw [hc] at h1
  exact ev_bind h1 (ev_neg (by simp [chkAt]) (ev_some rfl))
theorem Needed_bad (l : List S50) (e : List Int) (hl : l.length < 8796093022208) (hw : ∀ e ∈ l, e.f3.length ≤ 9223372036854775807) (j : Nat) (hc : chk 0 l = some j) :
    Ev (fun k => clean_Needed.f k l e) ([], some 1) := by
  unfold clean_Needed.f
  exact ev_bind (Spans_bad l hl hw j hc) (ev_neg (by simp) (ev_some rfl))
theorem Fast_bad (l : List S50) (e : List Int) (hl : l.length < 8796093022208) (hw : ∀ e ∈ l, e.f3.length ≤ 9223372036854775807) (j : Nat) (hc : chk 0 l = some j) :
    Ev (fun k => clean_Fast.f k l e) (0, some 1) := by
  unfold clean_Fast.f
  exact ev_bind (Needed_bad l e hl hw j hc) (ev_neg (by simp) (ev_some rfl))
theorem Thorough_bad (l : List S50) (e : List Int) (hl : l.length < 8796093022208) (hw : ∀ e ∈ l, e.f3.length ≤ 9223372036854775807) (j : Nat) (hc : chk 0 l = some j) :
    Ev (fun k => clean_Thorough.f k l e) ([], some 1) := by
  unfold clean_Thorough.f
  exact ev_bind (Needed_bad l e hl hw j hc) (ev_neg (by simp) (ev_some rfl))

/-! ### Thorough -/
def thorL (l : List S50) (nd : List Int) : List S50 := nd.map fun i => ownE (rd_T50 l i)
theorem thor_ok (l : List S50) (hd : ∀ i : Int, 0 ≤ i → i < (l.length : Int) → (rd_T50 l i).f3.length < 140737488355328) :
    ∀ (nd : List Int) (acc : List S50), (∀ i ∈ nd, 0 ≤ i ∧ i < (l.length : Int)) → acc.length + nd.length < 1954687338268 → thor l nd acc = some (acc ++ thorL l nd)
  | [], acc, _, _ => by simp [thor, thorL]
  | i :: r, acc, hi, hl => by
    have h1 := hi i List.mem_cons_self
    simp only [List.length_cons] at hl
    unfold thor
    rw [if_pos ⟨h1.1, h1.2, by omega, hd i h1.1 h1.2⟩, thor_ok l hd r _ (fun x hx => hi x (List.mem_cons_of_mem _ hx)) (by simp; omega)]
    simp [thorL]
theorem Thorough_ok (l : List S50) (e : List Int) (hl : l.length < 1954687338268) (hw : ∀ e ∈ l, e.f3.length < 140737488355328) (hc : chk 0 l = none) :
    Ev (fun k => clean_Thorough.f k l e) (thorL l (needs e 0 (spans l)), none) := by
  unfold clean_Thorough.f
  refine ev_bind (Needed_ok l e (by omega) (fun x hx => by have := hw x hx; omega) hc) (ev_pos rfl (ev_const ?_))
  have hn := needs_length e (spans l) 0
  rw [spans_length] at hn
  rw [thor_ok l (fun i h0 h1 => ?_) _ [] (fun i hi => ?_) (by simp; omega)]
  · rfl
  · obtain ⟨n, rfl⟩ := Int.eq_ofNat_of_zero_le h0
    rw [rdE (by omega)]
    exact hw _ (List.getElem_mem _)
  · have := needs_lt e hi
    rw [spans_length] at this
    exact ⟨by have := needs_ge e hi; omega, by omega⟩

/-! ### the same -/
theorem equal_l0 (a : List Int) (ha : a.length ≤ 9223372036854775807) : ∀ (d i : Nat), i + d = a.length → Ev (fun k => slices_Equal_byte_byte.l0 k a a (a.length : Int) (i : Int)) true := by
  intro d
  induction d with
  | zero =>
    intro i hi
    refine ev_succ ?_
    simp only [slices_Equal_byte_byte.l0]
    exact ev_neg (by omega) (ev_some rfl)
  | succ d ih =>
    intro i hi
    have hlt : i < a.length := by omega
    refine ev_succ ?_
    simp only [slices_Equal_byte_byte.l0]
    rw [wrap_succ hlt ha]
    exact ev_pos (by omega) (ev_pos (by omega) (ev_pos (by omega) (ev_pos (by omega) (ev_pos (by trivial) (ih (i + 1) (by omega))))))
theorem equal_self (a : List Int) (ha : a.length ≤ 9223372036854775807) : Ev (fun k => slices_Equal_byte_byte.f k a a) true := by
  unfold slices_Equal_byte_byte.f
  exact ev_pos rfl (equal_l0 a ha a.length 0 (by omega))
theorem same_own (x : S50) (hx : x.f3.length ≤ 9223372036854775807) :
    Ev (fun k => entry_Same.f k (ownE x).f0 (ownE x).f1 (ownE x).f2 (ownE x).f3 (ownE x).f4 (ownE x).f5 x.f0 x.f1 x.f2 x.f3 x.f4 x.f5) true := by
  have h0 : (ownE x).f0 = x.f0 := by unfold ownE; (repeat' split) <;> rfl
  have h1 : (ownE x).f1 = x.f1 := by unfold ownE; (repeat' split) <;> rfl
  unfold entry_Same.f
  refine ev_pos h0 (ev_succ ?_)
  simp only [entry_Same.j0]
  refine ev_neg (by simp [h1]) ?_
  rw [h0]
  by_cases k1 : x.f0 = 1
  · have e : ownE x = ⟨x.f0, x.f1, x.f2, x.f3, ⟨#[]⟩, 0⟩ := by unfold ownE; rw [if_pos k1]
    rw [e]
    exact ev_pos k1 (ev_pos (by trivial) (ev_bind (equal_self _ hx) (ev_some rfl)))
  · refine ev_neg k1 ?_
    by_cases k2 : x.f0 = 2
    · have e : ownE x = ⟨x.f0, x.f1, x.f2, [], ⟨#[]⟩, 0⟩ := by unfold ownE; rw [if_neg k1, if_pos k2]
      rw [e]
      exact ev_pos k2 (ev_some (by simp))
    · refine ev_neg k2 ?_
      by_cases k3 : x.f0 = 3
      · have e : ownE x = ⟨x.f0, x.f1, 0, [], x.f4, x.f5⟩ := by unfold ownE; rw [if_neg k1, if_neg k2, if_pos k3]
        rw [e]
        exact ev_pos k3 (ev_pos (by trivial) (ev_some (by simp)))
      · refine ev_neg k3 ?_
        by_cases k4 : x.f0 = 4
        · have e : ownE x = ⟨x.f0, x.f1, 0, [], x.f4, 0⟩ := by unfold ownE; rw [if_neg k1, if_neg k2, if_neg k3, if_pos k4]
          rw [e]
          exact ev_pos k4 (ev_some (by simp))
        · refine ev_neg k4 ?_
          by_cases k5 : x.f0 = 5
          · have e : ownE x = ⟨x.f0, x.f1, 0, [], ⟨#[]⟩, x.f5⟩ := by unfold ownE; rw [if_neg k1, if_neg k2, if_neg k3, if_neg k4, if_pos k5]
            rw [e]
            exact ev_pos k5 (ev_some (by simp))
          · exact ev_neg k5 (ev_some rfl)

/-! ### the reference's spans -/
theorem cov_eq (a b : S32) (nx : Bool) : covR a b nx = covB (toE b) (toE a) nx := by
  unfold covR covB toE
  dsimp only
  by_cases k1 : a.f0 = 1
  · rw [if_pos k1, if_pos k1]
    by_cases q1 : b.f0 = 1
    · rw [if_pos q1, if_neg (by omega), if_pos q1]
    · by_cases q2 : b.f0 = 2
      · rw [if_neg q1, if_pos q2, if_pos q2]
      · rw [if_neg q1, if_neg q2, if_neg q2, if_neg q1]
  · rw [if_neg k1, if_neg k1]
theorem chk_le (l : List S50) : ∀ last, chk last l = none → ∀ e ∈ l, okS e = true := by
  induction l with
  | nil => intro _ _ e he; cases he
  | cons x r ih =>
    intro last h e he
    unfold chk at h
    by_cases hx : okS x = true
    · rw [if_pos hx] at h
      by_cases hy : x.f1 < last
      · rw [if_pos hy] at h; cases h
      · rw [if_neg hy] at h
        rcases List.mem_cons.1 he with rfl | he
        · exact hx
        · exact ih _ (Option.map_eq_none_iff.1 h) e he
    · rw [if_neg hx] at h; cases h
theorem okS_epoch {e : S50} (h : okS e = true) : 1 ≤ e.f1 := by
  unfold okS okE within at h
  simp at h
  omega
def toR (s : S64) : S65 := ⟨s.f0, s.f1⟩

section
variable (l : List S32) (hl : l.length < 8796093022208) (hp : ∀ i (h : i < l.length), 1 ≤ l[i].f1)
include hl hp
theorem rspan_ev (a : Nat) (ha : a < l.length) (acc : List S65) (hacc : acc.length = a) (born : Int) (r : List S65) :
    ∀ (d j : Nat), j + d = l.length → a < j →
      Ev (fun k => dolmenref9_Spans.l0 k l (acc ++ [⟨born, died (toE l[a]) (decide (j = a + 1)) ((l.drop j).map toE)⟩]) (l.length : Int) ((a + 1 : Nat) : Int)) r →
      Ev (fun k => dolmenref9_Spans.l1 k l acc (a : Int) (j : Int) (l.length : Int) (a : Int) born 0) r := by
  intro d
  induction d with
  | zero =>
    intro j hj haj hk
    rw [List.drop_eq_nil_of_le (by omega)] at hk
    refine ev_succ ?_
    simp only [dolmenref9_Spans.l1]
    refine ev_neg (by omega) (ev_succ ?_)
    simp only [dolmenref9_Spans.j2]
    rw [wrap_succ ha (by omega)]
    exact ev_neg (by simp) (ev_pos (by omega) hk)
  | succ d ih =>
    intro j hj haj hk
    have hlt : j < l.length := by omega
    rw [List.drop_eq_getElem_cons hlt, List.map_cons] at hk
    refine ev_succ ?_
    simp only [dolmenref9_Spans.l1]
    refine ev_pos (by omega) (ev_succ ?_)
    simp only [dolmenref9_Spans.j2]
    refine ev_pos (by simp) ?_
    have hcov : dolmenref9_covers.f l (a : Int) (j : Int) = some (covB (toE l[j]) (toE l[a]) (decide (j = a + 1))) := by
      unfold dolmenref9_covers.f
      rw [if_pos (by omega), if_pos (by omega), if_pos (by omega), if_pos (by omega), rdR ha, rdR hlt, wrap_succ ha (by omega), cov_eq]
      congr 2
      rw [Bool.eq_iff_iff]
      simp
      omega
    refine ev_bind (ev_const hcov) ?_
    change Ev (fun k => dolmenref9_Spans.l0 k l (acc ++ [⟨born, if covB (toE l[j]) (toE l[a]) (decide (j = a + 1)) = true then l[j].f1 else died (toE l[a]) false ((l.drop (j + 1)).map toE)⟩]) (l.length : Int) ((a + 1 : Nat) : Int)) r at hk
    by_cases hc : covB (toE l[j]) (toE l[a]) (decide (j = a + 1)) = true
    · rw [if_pos hc] at hk
      refine ev_pos hc (ev_pos (by omega) (ev_pos (by omega) ?_))
      rw [rdR hlt, wrap_succ hlt (by omega)]
      have hne : (l[j].f1 == 0) = false := by have := hp j hlt; simp; omega
      refine ev_succ ?_
      simp only [dolmenref9_Spans.l1]
      have fin : Ev (fun k => dolmenref9_Spans.j2 k l acc (a : Int) ((j + 1 : Nat) : Int) (l.length : Int) (a : Int) false born l[j].f1) r := by
        refine ev_succ ?_
        simp only [dolmenref9_Spans.j2]
        rw [wrap_succ ha (by omega)]
        exact ev_neg (by simp) (ev_pos (by omega) hk)
      rw [hne]
      by_cases hlt2 : ((j + 1 : Nat) : Int) < (l.length : Int)
      · exact ev_pos hlt2 fin
      · exact ev_neg hlt2 fin
    · rw [if_neg hc] at hk
      refine ev_neg hc ?_
      rw [wrap_succ hlt (by omega)]
      refine ih (j + 1) (by omega) (by omega) ?_
      rw [show decide (j + 1 = a + 1) = false from decide_eq_false (by omega)]
      exact hk
theorem rspans_ev : ∀ (d i : Nat) (acc : List S65), i + d = l.length → acc.length = i →
    Ev (fun k => dolmenref9_Spans.l0 k l acc (l.length : Int) (i : Int)) (acc ++ (spans ((l.drop i).map toE)).map toR) := by
  intro d
  induction d with
  | zero =>
    intro i acc hi ha
    refine ev_succ ?_
    simp only [dolmenref9_Spans.l0]
    refine ev_neg (by omega) (ev_some ?_)
    rw [List.drop_eq_nil_of_le (by omega)]
    simp [spans]
  | succ d ih =>
    intro i acc hi ha
    have hlt : i < l.length := by omega
    refine ev_succ ?_
    simp only [dolmenref9_Spans.l0]
    refine ev_pos (by omega) (ev_pos (by omega) (ev_pos (by omega) ?_))
    rw [rdR hlt, wrap_succ hlt (by omega), List.drop_eq_getElem_cons hlt]
    refine rspan_ev l hl hp i hlt acc ha _ _ (l.length - (i + 1)) (i + 1) (by omega) (by omega) ?_
    have := ih (i + 1) (acc ++ [⟨l[i].f1, died (toE l[i]) true ((l.drop (i + 1)).map toE)⟩]) (by omega) (by simp [ha])
    rw [List.append_assoc] at this
    rw [show decide (i + 1 = i + 1) = true from decide_eq_true rfl]
    exact this
theorem RSpans_ok : Ev (fun k => dolmenref9_Spans.f k l) ((spans (l.map toE)).map toR) := by
  have := rspans_ev l hl hp l.length 0 [] (by omega) rfl
  simpa [dolmenref9_Spans.f] using this
end
theorem holds_eq (b d e : Int) : dolmenref9_Holds.f b d e = some (Go.Proofs.Ytacdocchcfbgcaa.HLives.holdsB b d e) := by
  unfold dolmenref9_Holds.f Go.Proofs.Ytacdocchcfbgcaa.HLives.holdsB
  by_cases h1 : e ≥ b
  · rw [if_pos h1, show decide (b ≤ e) = true from decide_eq_true h1]
    by_cases h2 : d = 0 <;> simp [h2]
  · rw [if_neg h1, show decide (b ≤ e) = false from decide_eq_false h1]
    rfl
theorem holdsAny_ev (b d : Int) (e : List Int) (he : e.length ≤ 9223372036854775807) : ∀ (n i : Nat), i + n = e.length →
    Ev (fun k => dolmenref9_holdsAny.l0 k e (i : Int) b d) (decide (d = 0) || (e.drop i).any (Go.Proofs.Ytacdocchcfbgcaa.HLives.holdsB b d)) := by
  intro n
  induction n with
  | zero =>
    intro i hi
    refine ev_succ ?_
    simp only [dolmenref9_holdsAny.l0]
    refine ev_neg (by omega) (ev_some ?_)
    rw [List.drop_eq_nil_of_le (by omega), List.any_nil, Bool.or_false, Bool.eq_iff_iff]
    simp
  | succ n ih =>
    intro i hi
    have hlt : i < e.length := by omega
    refine ev_succ ?_
    simp only [dolmenref9_holdsAny.l0]
    refine ev_pos (by omega) (ev_pos (by omega) (ev_bind (ev_const (holds_eq _ _ _)) ?_))
    rw [rd_nat hlt, List.drop_eq_getElem_cons hlt, List.any_cons, wrap_succ hlt he]
    cases hh : Go.Proofs.Ytacdocchcfbgcaa.HLives.holdsB b d e[i] with
    | true => exact ev_pos rfl (ev_some (by simp))
    | false =>
      rw [Bool.false_or]
      exact ev_neg (by simp) (ih (i + 1) (by omega))
theorem holdsAny_f (b d : Int) (e : List Int) (he : e.length ≤ 9223372036854775807) : Ev (fun k => dolmenref9_holdsAny.f k b d e) (Go.Proofs.Ytacdocchcfbgcaa.HLives.livesB b d e) := by
  have := holdsAny_ev b d e he e.length 0 (by omega)
  simpa [dolmenref9_holdsAny.f, Go.Proofs.Ytacdocchcfbgcaa.HLives.livesB] using this
theorem rdS' {xs : List S65} {i : Nat} (h : i < xs.length) : rd_T65 xs (i : Int) = xs[i] := by unfold rd_T65; simp [h]
theorem rneeded_ev (e : List Int) (he : e.length ≤ 9223372036854775807) (sp : List S64) (hl : sp.length < 17592186044416) :
    ∀ (d i : Nat) (acc : List Int), i + d = sp.length → acc.length ≤ i → Ev (fun k => dolmenref9_NeededEntries.l0 k e acc (sp.map toR) (i : Int)) (acc ++ needs e i (sp.drop i)) := by
  intro d
  induction d with
  | zero =>
    intro i acc hi ha
    refine ev_succ ?_
    simp only [dolmenref9_NeededEntries.l0]
    refine ev_neg (by simp; omega) (ev_some ?_)
    rw [List.drop_eq_nil_of_le (by omega)]
    simp [needs]
  | succ d ih =>
    intro i acc hi ha
    have hlt : i < sp.length := by omega
    refine ev_succ ?_
    simp only [dolmenref9_NeededEntries.l0]
    refine ev_pos (by simp; omega) (ev_pos (by omega) ?_)
    rw [rdS' (by simpa using hlt), List.drop_eq_getElem_cons hlt, List.getElem_map]
    refine ev_bind (a := lv e sp[i]) (holdsAny_f _ _ e he) ?_
    rw [wrap_succ hlt (by omega)]
    unfold needs
    cases hb : lv e sp[i] with
    | true =>
      refine ev_pos rfl (ev_pos (by omega) ?_)
      have := ih (i + 1) (acc ++ [(i : Int)]) (by omega) (by simp; omega)
      rw [List.append_assoc] at this
      exact this
    | false => exact ev_neg (by simp) (ih (i + 1) acc (by omega) (by omega))
theorem RNeeded_ok (l : List S32) (e : List Int) (he : e.length ≤ 9223372036854775807) (hl : l.length < 8796093022208) (hp : ∀ i (h : i < l.length), 1 ≤ l[i].f1) :
    Ev (fun k => dolmenref9_NeededEntries.f k l e) (needs e 0 (spans (l.map toE))) := by
  unfold dolmenref9_NeededEntries.f
  refine ev_bind (RSpans_ok l hl hp) ?_
  have := rneeded_ev e he (spans (l.map toE)) (by rw [spans_length, List.length_map]; omega) (spans (l.map toE)).length 0 [] (by omega) (by simp)
  simpa using this

/-! ### what is small has little data -/
theorem sum_le (l : List Int) (hl : l.length ≤ 9223372036854775807) (h0 : ∀ x ∈ l, 0 ≤ x) :
    ∀ (d i : Nat) (n : Int), i + d = l.length → 0 ≤ n → ∃ t, Ev (fun k => dolmenalike_Sum.l0 k n l (i : Int)) t ∧ (t ≤ 4000 → n ≤ t ∧ ∀ x ∈ l.drop i, x ≤ 4000) ∧ 0 ≤ t := by
  intro d
  induction d with
  | zero =>
    intro i n hi hn
    refine ⟨n, ev_succ ?_, fun _ => ⟨Int.le_refl _, ?_⟩, hn⟩
    · simp only [dolmenalike_Sum.l0]
      exact ev_neg (by omega) (ev_some rfl)
    · rw [List.drop_eq_nil_of_le (by omega)]
      intro x hx; cases hx
  | succ d ih =>
    intro i n hi hn
    have hlt : i < l.length := by omega
    by_cases h1 : n > 1099511627776
    · refine ⟨1099511627776, ev_succ ?_, fun h => by omega, by omega⟩
      simp only [dolmenalike_Sum.l0]
      exact ev_pos (by omega) (ev_pos h1 (ev_some rfl))
    · have e1 : wrap64 (1099511627776 - n) = 1099511627776 - n := wrap_in (by omega) (by omega)
      by_cases h2 : (rd l (i : Int)) > 1099511627776 - n
      · refine ⟨1099511627776, ev_succ ?_, fun h => by omega, by omega⟩
        simp only [dolmenalike_Sum.l0]
        rw [e1]
        exact ev_pos (by omega) (ev_neg h1 (ev_pos (by omega) (ev_pos h2 (ev_some rfl))))
      · have hx := h0 _ (List.getElem_mem hlt)
        rw [rd_nat hlt] at h2
        have e2 : wrap64 (n + l[i]) = n + l[i] := wrap_in (by omega) (by omega)
        obtain ⟨t, ht, hle, ht0⟩ := ih (i + 1) (n + l[i]) (by omega) (by omega)
        refine ⟨t, ev_succ ?_, fun h => ?_, ht0⟩
        · simp only [dolmenalike_Sum.l0]
          rw [wrap_succ hlt hl, rd_nat hlt, e1, e2]
          exact ev_pos (by omega) (ev_neg h1 (ev_pos (by omega) (ev_neg h2 ht)))
        · obtain ⟨h3, h4⟩ := hle h
          refine ⟨by omega, fun x hx2 => ?_⟩
          rw [List.drop_eq_getElem_cons hlt] at hx2
          rcases List.mem_cons.1 hx2 with rfl | hx2
          · omega
          · exact h4 x hx2
theorem small_data (l : List S32) (e : List Int) (hl : l.length ≤ 9223372036854775807) :
    ∀ (d i : Nat) (n : Int), i + d = l.length → 0 ≤ n → ∃ b, Ev (fun k => dolmenlaw14_small.l0 k l e n (i : Int)) b ∧ (b = true → l.length ≤ 40 ∧ e.length ≤ 20 ∧ ∀ x ∈ l.drop i, x.f3.length ≤ 4000) := by
  intro d
  induction d with
  | zero =>
    intro i n hi hn
    have hdr : ∀ x ∈ l.drop i, x.f3.length ≤ 4000 := by rw [List.drop_eq_nil_of_le (by omega)]; intro x hx; cases hx
    by_cases h : (l.length : Int) ≤ 40
    · refine ⟨decide ((e.length : Int) ≤ 20), ev_succ ?_, fun hb => ⟨by omega, by have := of_decide_eq_true hb; omega, hdr⟩⟩
      simp only [dolmenlaw14_small.l0]
      exact ev_neg (by omega) (ev_pos h (ev_some rfl))
    · refine ⟨false, ev_succ ?_, fun hb => by cases hb⟩
      simp only [dolmenlaw14_small.l0]
      exact ev_neg (by omega) (ev_neg h (ev_some rfl))
  | succ d ih =>
    intro i n hi hn
    have hlt : i < l.length := by omega
    obtain ⟨t, ht, hle, ht0⟩ := sum_le [((l[i].f3).length : Int), ((l[i].f4).size : Int), 1] (by simp) (by intro x hx; simp at hx; omega) 3 0 n rfl hn
    have ht' : Ev (fun k => dolmenalike_Sum.f k n [((l[i].f3).length : Int), ((l[i].f4).size : Int), 1]) t := by simpa [dolmenalike_Sum.f] using ht
    by_cases h : t > 4000
    · refine ⟨false, ev_succ ?_, fun hb => by cases hb⟩
      simp only [dolmenlaw14_small.l0]
      rw [rdR hlt]
      exact ev_pos (by omega) (ev_pos (by omega) (ev_bind ht' (ev_pos h (ev_some rfl))))
    · obtain ⟨b, hb, hb2⟩ := ih (i + 1) t (by omega) ht0
      refine ⟨b, ev_succ ?_, fun h5 => ?_⟩
      · simp only [dolmenlaw14_small.l0]
        rw [wrap_succ hlt hl, rdR hlt]
        exact ev_pos (by omega) (ev_pos (by omega) (ev_bind ht' (ev_neg h hb)))
      · obtain ⟨a1, a2, a3⟩ := hb2 h5
        refine ⟨a1, a2, fun x hx => ?_⟩
        rw [List.drop_eq_getElem_cons hlt] at hx
        rcases List.mem_cons.1 hx with rfl | hx
        · have := (hle (by omega)).2 ((l[i].f3).length : Int) (by simp)
          omega
        · exact a3 x hx
theorem small_ev2 (l : List S32) (e : List Int) (hl : l.length ≤ 9223372036854775807) :
    ∃ b, Ev (fun k => dolmenlaw14_small.f k l e) b ∧ (b = true → l.length ≤ 40 ∧ e.length ≤ 20 ∧ ∀ x ∈ l, x.f3.length ≤ 4000) := by
  obtain ⟨b, hb, h2⟩ := small_data l e hl l.length 0 0 (by omega) (by omega)
  exact ⟨b, by simpa [dolmenlaw14_small.f] using hb, by simpa using h2⟩
end Go.Proofs.Ytacdocchcfbgcaa.PC
