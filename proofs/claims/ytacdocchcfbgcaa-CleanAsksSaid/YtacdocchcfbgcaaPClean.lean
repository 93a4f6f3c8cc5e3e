/-
  What the printed functions of entry, fold and clean come to.
-/
import Derived.Test.YtacdocchcfbgcaaPBase
import Derived.Test.YtacdocchcfbgcaaQO
import Derived.Test.YtacdocchcfbgcaaQx4
import Derived.Test.YtacdocchcfbgcaaQx9
import Derived.Test.YtacdocchcfbgcaaQx10
import Derived.Test.YtacdocchcfbgcaaQx7
import Derived.Test.YtacdocchcfbgcaaQx11
import Derived.Test.YtacdocchcfbgcaaQx2
import Derived.Test.YtacdocchcfbgcaaQx11
set_option linter.unusedSimpArgs false
set_option linter.unusedVariables false
namespace Go.Proofs.Ytacdocchcfbgcaa.PC
open Go.RowKit Go.Proofs.Ytacdocchcfbgcaa.Q Go.Proofs.YtacdocchcfbgcaaW.PrintWords Go.Proofs.YtacdocchcfbgcaaW.PrintLast Go.Proofs.Ytacdocchcfbgcaa.PB

/-! ### entries -/
def within (x a b : Int) : Bool := decide (a ≤ x) && decide (x ≤ b)
theorem within_f (x a b : Int) : entry_within.f x a b = some (within x a b) := by
  unfold entry_within.f within
  by_cases h : a ≤ x <;> simp [h]
theorem epoch_f (x : Int) : dolmenref9_Epoch.f x = some (within x 1 1099511627776) := by
  unfold dolmenref9_Epoch.f within
  by_cases h : 1 ≤ x <;> simp [h]

/-- May an entry be? -/
def okE (kind epoch off : Int) (data : List Int) (name : ByteArray) (ino : Int) : Bool :=
  within epoch 1 1099511627776 &&
    (if kind = 1 then within off 0 2000 && decide (0 < data.length) && decide ((data.length : Int) ≤ 2000 - off)
     else if kind = 2 then within off 0 2000
     else if kind = 3 then within (name.size : Int) 1 12 && within ino 1 1073741824
     else if kind = 4 then within (name.size : Int) 1 12
     else if kind = 5 then within ino 1 1073741824
     else false)

theorem check_ev (kind epoch off : Int) (data : List Int) (name : ByteArray) (ino : Int) (hd : data.length ≤ 9223372036854775807) :
    Ev (fun k => entry_Check.f k kind epoch off data name ino) (if okE kind epoch off data name ino = true then none else some 1) := by
  refine ⟨1, fun k hk => ?_⟩
  obtain ⟨m, rfl⟩ : ∃ m, k = m + 1 := ⟨k - 1, by omega⟩
  unfold entry_Check.f
  simp only [entry_Check.j0, within_f, Option.bind_some]
  unfold okE
  cases h0 : within epoch 1 1099511627776
  · simp
  · by_cases k1 : kind = 1
    · subst k1
      simp only [if_true, Bool.true_and]
      by_cases d0 : (data.length : Int) > 0
      · by_cases d1 : (data.length : Int) ≤ 2000
        · rw [if_pos d0, if_pos d1, wrap_in (by omega) (by omega)]
          by_cases d2 : off ≤ 2000 - (data.length : Int)
          · rw [if_pos d2]
            have e1 : within off 0 2000 = decide (0 ≤ off) := by unfold within; rw [show decide (off ≤ 2000) = true from decide_eq_true (by omega), Bool.and_true]
            have e2 : decide (0 < data.length) = true := decide_eq_true (by omega)
            have e3 : decide ((data.length : Int) ≤ 2000 - off) = true := decide_eq_true (by omega)
            rw [e2, e3, Bool.and_true, Bool.and_true]
            cases within off 0 2000 <;> rfl
          · rw [if_neg d2]
            have e3 : decide ((data.length : Int) ≤ 2000 - off) = false := decide_eq_false (by omega)
            rw [e3, Bool.and_false]
            rfl
        · rw [if_pos d0, if_neg d1]
          have e3 : (within off 0 2000 && decide (0 < data.length) && decide ((data.length : Int) ≤ 2000 - off)) = false := by
            rw [Bool.eq_false_iff]
            intro h
            simp [within] at h
            omega
          rw [e3]
          rfl
      · rw [if_neg d0]
        have e2 : decide (0 < data.length) = false := decide_eq_false (by omega)
        rw [e2, Bool.and_false, Bool.false_and]
        rfl
    · by_cases k2 : kind = 2
      · subst k2
        simp only [if_true, Bool.true_and, if_neg k1]
        cases within off 0 2000 <;> rfl
      · by_cases k3 : kind = 3
        · subst k3
          simp only [if_true, Bool.true_and, if_neg k1, if_neg k2]
          cases within ino 1 1073741824 <;> cases within (name.size : Int) 1 12 <;> rfl
        · by_cases k4 : kind = 4
          · subst k4
            simp only [if_true, Bool.true_and, if_neg k1, if_neg k2, if_neg k3]
            cases within (name.size : Int) 1 12 <;> rfl
          · by_cases k5 : kind = 5
            · subst k5
              simp only [if_true, Bool.true_and, if_neg k1, if_neg k2, if_neg k3, if_neg k4]
              cases within ino 1 1073741824 <;> rfl
            · simp only [if_true, Bool.true_and, if_neg k1, if_neg k2, if_neg k3, if_neg k4, if_neg k5]
              rfl

theorem centry_ev (kind epoch off : Int) (data : List Int) (name : ByteArray) (ino : Int) (hd : data.length ≤ 9223372036854775807) :
    Ev (fun k => dolmenref9_CheckEntry.f k kind epoch off data name ino) (if okE kind epoch off data name ino = true then 0 else 1) := by
  refine ⟨1, fun k hk => ?_⟩
  obtain ⟨m, rfl⟩ : ∃ m, k = m + 1 := ⟨k - 1, by omega⟩
  unfold dolmenref9_CheckEntry.f
  simp only [dolmenref9_CheckEntry.j0, epoch_f, Option.bind_some]
  unfold okE
  cases h0 : within epoch 1 1099511627776
  · simp
  · by_cases k1 : kind = 1
    · subst k1
      simp only [if_true, Bool.true_and]
      by_cases d0 : off ≥ 0
      · by_cases d1 : off ≤ 2000
        · rw [if_pos d0, if_pos d1, wrap_in (by omega) (by omega)]
          have e1 : within off 0 2000 = true := by unfold within; simp; omega
          rw [e1]
          by_cases d2 : (data.length : Int) > 0
          · rw [if_pos d2]
            have e2 : decide (0 < data.length) = true := decide_eq_true (by omega)
            rw [e2]
            by_cases d3 : (data.length : Int) ≤ 2000 - off <;> simp [d3]
          · rw [if_neg d2]
            have e2 : decide (0 < data.length) = false := decide_eq_false (by omega)
            rw [e2]
            rfl
        · rw [if_pos d0, if_neg d1]
          have e1 : within off 0 2000 = false := by unfold within; simp; omega
          rw [e1]; rfl
      · rw [if_neg d0]
        have e1 : within off 0 2000 = false := by unfold within; simp; omega
        rw [e1]; rfl
    · by_cases k2 : kind = 2
      · subst k2
        simp only [if_true, Bool.true_and, if_neg k1]
        unfold within
        by_cases d0 : off ≥ 0 <;> by_cases d1 : off ≤ 2000 <;> simp [d0, d1]
      · by_cases k3 : kind = 3
        · subst k3
          simp only [if_true, Bool.true_and, if_neg k1, if_neg k2]
          unfold within
          rw [show decide (1 ≤ (name.size : Int)) = decide ((name.size : Int) > 0) from decide_eq_decide.2 (by omega)]
          by_cases d0 : (name.size : Int) > 0 <;> by_cases d1 : (name.size : Int) ≤ 12 <;> by_cases d2 : ino ≥ 1 <;> by_cases d3 : ino ≤ 1073741824 <;> simp only [d0, d1, d2, d3, if_true, if_false, decide_true, decide_false, Bool.and_true, Bool.and_false, Bool.true_and, Bool.false_and, reduceIte, ge_iff_le, Bool.false_eq_true] <;> rfl
        · by_cases k4 : kind = 4
          · subst k4
            simp only [if_true, Bool.true_and, if_neg k1, if_neg k2, if_neg k3]
            unfold within
            rw [show decide (1 ≤ (name.size : Int)) = decide ((name.size : Int) > 0) from decide_eq_decide.2 (by omega)]
            by_cases d0 : (name.size : Int) > 0 <;> by_cases d1 : (name.size : Int) ≤ 12 <;> simp only [d0, d1, if_true, if_false, decide_true, decide_false, Bool.and_true, Bool.and_false, Bool.true_and, Bool.false_and, reduceIte, Bool.false_eq_true] <;> rfl
          · have b4 : (kind == 4) = false := by simpa using k4
            by_cases k5 : kind = 5
            · subst k5
              simp only [if_true, Bool.true_and, if_neg k1, if_neg k2, if_neg k3, if_neg k4, b4]
              unfold within
              by_cases d2 : ino ≥ 1 <;> by_cases d3 : ino ≤ 1073741824 <;> simp [d2, d3]
            · simp only [if_true, Bool.true_and, if_neg k1, if_neg k2, if_neg k3, if_neg k4, if_neg k5, b4]
              rfl
/-! ### indexes -/
theorem rdE {xs : List S50} {i : Nat} (h : i < xs.length) : rd_T50 xs (i : Int) = xs[i] := by unfold rd_T50; simp [h]
theorem rdR {xs : List S32} {i : Nat} (h : i < xs.length) : rd_T32 xs (i : Int) = xs[i] := by unfold rd_T32; simp [h]
theorem rdS {xs : List S64} {i : Nat} (h : i < xs.length) : rd_T64 xs (i : Int) = xs[i] := by unfold rd_T64; simp [h]

def okS (e : S50) : Bool := okE e.f0 e.f1 e.f2 e.f3 e.f4 e.f5
def toE (e : S32) : S50 := ⟨e.f0, e.f1, e.f2, e.f3, e.f4, e.f5⟩
/-- The first that may not be where it is. -/
def chk (last : Int) : List S50 → Option Nat
  | [] => none
  | e :: r => if okS e = true then (if e.f1 < last then some 0 else (chk e.f1 r).map (· + 1)) else some 0
def chkAt (i : Nat) : Option Nat → Int × Option Int
  | none => (-1, none)
  | some j => ((i + j : Nat), some 1)
def chkAt' (i : Nat) : Option Nat → Int × Int
  | none => (-1, 0)
  | some j => ((i + j : Nat), 1)
theorem chkAt_succ (i : Nat) (o : Option Nat) : chkAt i (o.map (· + 1)) = chkAt (i + 1) o := by
  cases o <;> simp [chkAt]
  omega
theorem chkAt'_succ (i : Nat) (o : Option Nat) : chkAt' i (o.map (· + 1)) = chkAt' (i + 1) o := by
  cases o <;> simp [chkAt']
  omega

theorem fcheck_ev (l : List S50) (hl : l.length ≤ 9223372036854775807) (hw : ∀ e ∈ l, e.f3.length ≤ 9223372036854775807) :
    ∀ (d i : Nat) (last : Int), i + d = l.length → Ev (fun k => fold_Check.l0 k last l (l.length : Int) (i : Int)) (chkAt i (chk last (l.drop i))) := by
  intro d
  induction d with
  | zero =>
    intro i last hi
    refine ev_succ ?_
    simp only [fold_Check.l0]
    refine ev_neg (by omega) (ev_some ?_)
    rw [List.drop_eq_nil_of_le (by omega)]
    rfl
  | succ d ih =>
    intro i last hi
    have hlt : i < l.length := by omega
    refine ev_succ ?_
    simp only [fold_Check.l0]
    refine ev_pos (by omega) (ev_pos (by omega) (ev_pos (by omega) ?_))
    rw [rdE hlt, List.drop_eq_getElem_cons hlt]
    refine ev_bind (check_ev _ _ _ _ _ _ (hw _ (List.getElem_mem hlt))) ?_
    show Ev _ (chkAt i (if okS l[i] = true then _ else _))
    cases ho : okS l[i] with
    | false =>
      have ho' : okE l[i].f0 l[i].f1 l[i].f2 l[i].f3 l[i].f4 l[i].f5 = false := ho
      rw [ho']
      exact ev_neg (by simp) (ev_some (by simp [chkAt]))
    | true =>
      have ho' : okE l[i].f0 l[i].f1 l[i].f2 l[i].f3 l[i].f4 l[i].f5 = true := ho
      rw [ho']
      refine ev_pos (by simp) ?_
      rw [if_pos rfl]
      by_cases hc : l[i].f1 < last
      · rw [if_pos hc]
        exact ev_pos hc (ev_some (by simp [chkAt]))
      · rw [if_neg hc, chkAt_succ, wrap_succ hlt hl]
        exact ev_neg hc (ih (i + 1) _ (by omega))

theorem fold_check (l : List S50) (hl : l.length ≤ 9223372036854775807) (hw : ∀ e ∈ l, e.f3.length ≤ 9223372036854775807) :
    Ev (fun k => fold_Check.f k l) (chkAt 0 (chk 0 l)) := by
  have := fcheck_ev l hl hw l.length 0 0 (by omega)
  simpa [fold_Check.f] using this

theorem clog_ev (l : List S32) (hl : l.length ≤ 9223372036854775807) (hw : ∀ e ∈ l, e.f3.length ≤ 9223372036854775807) :
    ∀ (d i : Nat) (last : Int), i + d = l.length → (i = 0 → last = 0) → (∀ h : 0 < i, (h2 : i - 1 < l.length) → last = l[i - 1].f1) → Ev (fun k => dolmenref9_CheckLog.l0 k l (i : Int)) (chkAt' i (chk last ((l.drop i).map toE))) := by
  intro d
  induction d with
  | zero =>
    intro i last hi _ _
    refine ev_succ ?_
    simp only [dolmenref9_CheckLog.l0]
    refine ev_neg (by omega) (ev_some ?_)
    rw [List.drop_eq_nil_of_le (by omega)]
    rfl
  | succ d ih =>
    intro i last hi h0 h1
    have hlt : i < l.length := by omega
    refine ev_succ ?_
    simp only [dolmenref9_CheckLog.l0]
    refine ev_pos (by omega) (ev_pos (by omega) ?_)
    rw [rdR hlt, List.drop_eq_getElem_cons hlt, List.map_cons]
    refine ev_bind (centry_ev _ _ _ _ _ _ (hw _ (List.getElem_mem hlt))) ?_
    show Ev _ (chkAt' i (if okE l[i].f0 l[i].f1 l[i].f2 l[i].f3 l[i].f4 l[i].f5 = true then (if l[i].f1 < last then some 0 else (chk l[i].f1 ((l.drop (i + 1)).map toE)).map (· + 1)) else some 0))
    cases ho : okE l[i].f0 l[i].f1 l[i].f2 l[i].f3 l[i].f4 l[i].f5 with
    | false => exact ev_neg (by simp) (ev_some (by simp [chkAt']))
    | true =>
      refine ev_pos (by simp) ?_
      rw [if_pos rfl]
      have ih' := ih (i + 1) l[i].f1 (by omega) (by omega) (fun _ h2 => by simp)
      by_cases hz : i = 0
      · have hl0 := h0 hz
        subst hl0
        have he : ¬ l[i].f1 < 0 := by
          unfold okE within at ho
          simp at ho
          omega
        rw [if_neg he, chkAt'_succ, wrap_succ hlt hl]
        exact ev_neg (by omega) ih'
      · have hp : i - 1 < l.length := by omega
        have hl1 := h1 (by omega) hp
        subst hl1
        rw [wrap_in (x := (i : Int) - 1) (by omega) (by omega), show ((i : Int) - 1) = ((i - 1 : Nat) : Int) by omega, rdR hp]
        refine ev_pos (by omega) (ev_pos (by omega) (ev_pos (by omega) ?_))
        by_cases hc : l[i].f1 < l[i - 1].f1
        · rw [if_pos hc]
          exact ev_pos hc (ev_some (by simp [chkAt']))
        · rw [if_neg hc, chkAt'_succ, wrap_succ hlt hl]
          exact ev_neg hc ih'

theorem check_log (l : List S32) (hl : l.length ≤ 9223372036854775807) (hw : ∀ e ∈ l, e.f3.length ≤ 9223372036854775807) :
    Ev (fun k => dolmenref9_CheckLog.f k l) (chkAt' 0 (chk 0 (l.map toE))) := by
  have := clog_ev l hl hw l.length 0 0 (by omega) (by simp) (by omega)
  simpa [dolmenref9_CheckLog.f] using this

/-! ### made -/
theorem made_ev (l : List S32) (hl : l.length < 1954687338268) :
    ∀ (d i : Nat) (acc : List S50), i + d = l.length → acc.length = i → Ev (fun k => dolmenlaw14_made.l0 k l acc (i : Int)) (acc ++ (l.drop i).map toE) := by
  intro d
  induction d with
  | zero =>
    intro i acc hi ha
    refine ev_succ ?_
    simp only [dolmenlaw14_made.l0]
    refine ev_neg (by omega) (ev_some ?_)
    rw [List.drop_eq_nil_of_le (by omega)]
    simp
  | succ d ih =>
    intro i acc hi ha
    have hlt : i < l.length := by omega
    refine ev_succ ?_
    simp only [dolmenlaw14_made.l0]
    refine ev_pos (by omega) (ev_pos (by omega) (ev_pos (by omega) ?_))
    rw [rdR hlt, wrap_succ hlt (by omega), List.drop_eq_getElem_cons hlt, List.map_cons]
    have := ih (i + 1) (acc ++ [toE l[i]]) (by omega) (by simp [ha])
    rw [List.append_assoc] at this
    exact this
theorem made (l : List S32) (hl : l.length < 1954687338268) : Ev (fun k => dolmenlaw14_made.f k l) (l.map toE) := by
  have := made_ev l hl l.length 0 [] (by omega) rfl
  simpa [dolmenlaw14_made.f] using this

/-! ### sums, and what is small -/
theorem sum_any (l : List Int) (hl : l.length ≤ 9223372036854775807) :
    ∀ (d i : Nat) (n : Int), i + d = l.length → ∃ t, Ev (fun k => dolmenalike_Sum.l0 k n l (i : Int)) t := by
  intro d
  induction d with
  | zero =>
    intro i n hi
    refine ⟨n, ev_succ ?_⟩
    simp only [dolmenalike_Sum.l0]
    exact ev_neg (by omega) (ev_some rfl)
  | succ d ih =>
    intro i n hi
    have hlt : i < l.length := by omega
    by_cases h1 : n > 1099511627776
    · refine ⟨1099511627776, ev_succ ?_⟩
      simp only [dolmenalike_Sum.l0]
      exact ev_pos (by omega) (ev_pos h1 (ev_some rfl))
    · by_cases h2 : (rd l (i : Int)) > (wrap64 (1099511627776 - n))
      · refine ⟨1099511627776, ev_succ ?_⟩
        simp only [dolmenalike_Sum.l0]
        exact ev_pos (by omega) (ev_neg h1 (ev_pos (by omega) (ev_pos h2 (ev_some rfl))))
      · obtain ⟨t, ht⟩ := ih (i + 1) (wrap64 (n + rd l (i : Int))) (by omega)
        refine ⟨t, ev_succ ?_⟩
        simp only [dolmenalike_Sum.l0]
        rw [wrap_succ hlt hl]
        exact ev_pos (by omega) (ev_neg h1 (ev_pos (by omega) (ev_neg h2 ht)))
theorem sum_ev (l : List Int) (n : Int) (hl : l.length ≤ 9223372036854775807) : ∃ t, Ev (fun k => dolmenalike_Sum.f k n l) t := by
  obtain ⟨t, ht⟩ := sum_any l hl l.length 0 n (by omega)
  exact ⟨t, by simpa [dolmenalike_Sum.f] using ht⟩

theorem small_any (l : List S32) (e : List Int) (hl : l.length ≤ 9223372036854775807) :
    ∀ (d i : Nat) (n : Int), i + d = l.length → ∃ b, Ev (fun k => dolmenlaw14_small.l0 k l e n (i : Int)) b ∧ (b = true → l.length ≤ 40 ∧ e.length ≤ 20) := by
  intro d
  induction d with
  | zero =>
    intro i n hi
    by_cases h : (l.length : Int) ≤ 40
    · refine ⟨decide ((e.length : Int) ≤ 20), ev_succ ?_, fun hb => ⟨by omega, by have := of_decide_eq_true hb; omega⟩⟩
      simp only [dolmenlaw14_small.l0]
      exact ev_neg (by omega) (ev_pos h (ev_some rfl))
    · refine ⟨false, ev_succ ?_, fun hb => by cases hb⟩
      simp only [dolmenlaw14_small.l0]
      exact ev_neg (by omega) (ev_neg h (ev_some rfl))
  | succ d ih =>
    intro i n hi
    have hlt : i < l.length := by omega
    obtain ⟨t, ht⟩ := sum_ev [(((rd_T32 l (i : Int)).f3).length : Int), (((rd_T32 l (i : Int)).f4).size : Int), 1] n (by simp)
    by_cases h : t > 4000
    · refine ⟨false, ev_succ ?_, fun hb => by cases hb⟩
      simp only [dolmenlaw14_small.l0]
      exact ev_pos (by omega) (ev_pos (by omega) (ev_bind ht (ev_pos h (ev_some rfl))))
    · obtain ⟨b, hb, hb2⟩ := ih (i + 1) t (by omega)
      refine ⟨b, ev_succ ?_, hb2⟩
      simp only [dolmenlaw14_small.l0]
      rw [wrap_succ hlt hl]
      exact ev_pos (by omega) (ev_pos (by omega) (ev_bind ht (ev_neg h hb)))
theorem small_ev (l : List S32) (e : List Int) (hl : l.length ≤ 9223372036854775807) : ∃ b, Ev (fun k => dolmenlaw14_small.f k l e) b ∧ (b = true → l.length ≤ 40 ∧ e.length ≤ 20) := by
  obtain ⟨b, hb, h2⟩ := small_any l e hl l.length 0 0 (by omega)
  exact ⟨b, by simpa [dolmenlaw14_small.f] using hb, h2⟩

/-! ### spans -/
def covB (e o : S50) (nx : Bool) : Bool :=
  if o.f0 = 1 then (if e.f0 = 2 then decide (e.f2 ≤ o.f2) else if e.f0 = 1 then decide (e.f2 ≤ o.f2) && decide (wrap64 (e.f2 + (e.f3.length : Int)) ≥ wrap64 (o.f2 + (o.f3.length : Int))) else false)
  else if o.f0 = 2 then (nx && decide (e.f0 = 2) && decide (e.f2 ≤ o.f2))
  else if o.f0 = 3 ∨ o.f0 = 4 then (decide (e.f0 = 3 ∨ e.f0 = 4) && (e.f4.toList == o.f4.toList))
  else false
theorem cov_f (e o : S50) (nx : Bool) : clean_covers.f e.f0 e.f1 e.f2 e.f3 e.f4 e.f5 o.f0 o.f1 o.f2 o.f3 o.f4 o.f5 nx = some (covB e o nx) := by
  unfold clean_covers.f covB
  by_cases k1 : o.f0 = 1
  · simp only [k1, if_true]
    by_cases k2 : e.f0 = 2
    · simp [k2]
    · by_cases k3 : e.f0 = 1
      · simp only [k3, if_true]
        by_cases k4 : e.f2 ≤ o.f2 <;> simp [k4]
      · simp [k2, k3]
  · by_cases k2 : o.f0 = 2
    · simp only [k2, if_true, if_false]
      cases nx
      · simp
      · by_cases k3 : e.f0 = 2 <;> simp [k3]
    · by_cases k3 : o.f0 = 3
      · simp only [k3]
        by_cases k4 : e.f0 = 3 <;> by_cases k5 : e.f0 = 4 <;> simp [k4, k5]
      · by_cases k4 : o.f0 = 4
        · simp only [k4]
          by_cases k5 : e.f0 = 3 <;> by_cases k6 : e.f0 = 4 <;> simp [k5, k6]
        · simp [k1, k2, k3, k4]
/-- When an entry is covered. -/
def died (o : S50) (nx : Bool) : List S50 → Int
  | [] => 0
  | e :: r => if covB e o nx = true then e.f1 else died o false r
def spans : List S50 → List S64
  | [] => []
  | o :: r => ⟨o.f1, died o true r⟩ :: spans r
theorem spans_length : ∀ l : List S50, (spans l).length = l.length
  | [] => rfl
  | o :: r => by simp [spans, spans_length r]

theorem span_ev (l : List S50) (hl : l.length ≤ 9223372036854775807) (a : Nat) (ha : a < l.length) (born : Int) :
    ∀ (d j : Nat), j + d = l.length → a < j → Ev (fun k => clean_span.l0 k l (a : Int) (j : Int) born 0) (born, died l[a] (decide (j = a + 1)) (l.drop j)) := by
  intro d
  induction d with
  | zero =>
    intro j hj haj
    refine ev_succ ?_
    simp only [clean_span.l0]
    refine ev_neg (by omega) (ev_some ?_)
    rw [List.drop_eq_nil_of_le (by omega)]
    rfl
  | succ d ih =>
    intro j hj haj
    have hlt : j < l.length := by omega
    refine ev_succ ?_
    simp only [clean_span.l0]
    refine ev_pos (by omega) (ev_pos (by omega) (ev_pos (by omega) (ev_pos (by omega) ?_)))
    rw [rdE hlt, rdE ha, List.drop_eq_getElem_cons hlt]
    refine ev_bind (ev_const (cov_f l[j] l[a] _)) ?_
    have e1 : (((j : Int)) == wrap64 ((a : Int) + 1)) = decide (j = a + 1) := by
      rw [wrap_succ ha hl, Bool.eq_iff_iff]
      simp
      omega
    rw [e1]
    show Ev _ (born, if covB l[j] l[a] (decide (j = a + 1)) = true then l[j].f1 else died l[a] false (l.drop (j + 1)))
    by_cases hc : covB l[j] l[a] (decide (j = a + 1)) = true
    · rw [if_pos hc]
      exact ev_pos hc (ev_some rfl)
    · rw [if_neg hc, wrap_succ hlt hl]
      have := ih (j + 1) (by omega) (by omega)
      rw [show decide (j + 1 = a + 1) = false from decide_eq_false (by omega)] at this
      exact ev_neg hc this

theorem span_f (l : List S50) (hl : l.length ≤ 9223372036854775807) (a : Nat) (ha : a < l.length) :
    Ev (fun k => clean_span.f k l (a : Int)) (l[a].f1, died l[a] true (l.drop (a + 1))) := by
  unfold clean_span.f
  refine ev_pos (by omega) (ev_pos (by omega) ?_)
  rw [rdE ha, wrap_succ ha hl]
  have := span_ev l hl a ha l[a].f1 (l.length - (a + 1)) (a + 1) (by omega) (by omega)
  simpa using this

theorem spans_ev (l : List S50) (hl : l.length < 8796093022208) :
    ∀ (d i : Nat) (acc : List S64), i + d = l.length → acc.length = i → Ev (fun k => clean_Spans.l0 k l acc (l.length : Int) (i : Int)) (acc ++ spans (l.drop i), none) := by
  intro d
  induction d with
  | zero =>
    intro i acc hi ha
    refine ev_succ ?_
    simp only [clean_Spans.l0]
    refine ev_neg (by omega) (ev_some ?_)
    rw [List.drop_eq_nil_of_le (by omega)]
    simp [spans]
  | succ d ih =>
    intro i acc hi ha
    have hlt : i < l.length := by omega
    refine ev_succ ?_
    simp only [clean_Spans.l0]
    refine ev_pos (by omega) (ev_bind (span_f l (by omega) i hlt) (ev_pos (by omega) ?_))
    rw [wrap_succ hlt (by omega), List.drop_eq_getElem_cons hlt]
    have := ih (i + 1) (acc ++ [⟨l[i].f1, died l[i] true (l.drop (i + 1))⟩]) (by omega) (by simp [ha])
    rw [List.append_assoc] at this
    exact this

theorem Spans_ok (l : List S50) (hl : l.length < 8796093022208) (hw : ∀ e ∈ l, e.f3.length ≤ 9223372036854775807) (hc : chk 0 l = none) :
    Ev (fun k => clean_Spans.f k l) (spans l, none) := by
  unfold clean_Spans.f
  have h1 := fold_check l (by omega) hw
  rw [hc] at h1
  refine ev_bind h1 (ev_pos rfl ?_)
  have := spans_ev l hl l.length 0 [] (by omega) rfl
  simpa using this

/-! ### who is needed -/
def lv (e : List Int) (s : S64) : Bool := Go.Proofs.Ytacdocchcfbgcaa.HLives.livesB s.f0 s.f1 e
def needs (e : List Int) (i : Nat) : List S64 → List Int
  | [] => []
  | s :: r => if lv e s = true then (i : Int) :: needs e (i + 1) r else needs e (i + 1) r
theorem needs_length (e : List Int) : ∀ (l : List S64) (i : Nat), (needs e i l).length ≤ l.length
  | [], i => by simp [needs]
  | s :: r, i => by
    have := needs_length e r (i + 1)
    unfold needs
    split <;> simp <;> omega

theorem needed_ev (e : List Int) (sp : List S64) (hl : sp.length < 17592186044416) :
    ∀ (d i : Nat) (acc : List Int), i + d = sp.length → acc.length ≤ i → Ev (fun k => clean_Needed.l0 k e acc sp (sp.length : Int) (i : Int)) (acc ++ needs e i (sp.drop i), none) := by
  intro d
  induction d with
  | zero =>
    intro i acc hi ha
    refine ev_succ ?_
    simp only [clean_Needed.l0]
    refine ev_neg (by omega) (ev_some ?_)
    rw [List.drop_eq_nil_of_le (by omega)]
    simp [needs]
  | succ d ih =>
    intro i acc hi ha
    have hlt : i < sp.length := by omega
    refine ev_succ ?_
    simp only [clean_Needed.l0]
    refine ev_pos (by omega) (ev_pos (by omega) (ev_pos (by omega) ?_))
    rw [rdS hlt, List.drop_eq_getElem_cons hlt]
    refine ev_bind (a := lv e sp[i]) (ev_const rfl) ?_
    rw [wrap_succ hlt (by omega)]
    unfold needs
    cases hb : lv e sp[i] with
    | true =>
      refine ev_pos rfl (ev_pos (by omega) ?_)
      have := ih (i + 1) (acc ++ [(i : Int)]) (by omega) (by simp; omega)
      rw [List.append_assoc] at this
      exact this
    | false => exact ev_neg (by simp) (ih (i + 1) acc (by omega) (by omega))

theorem Needed_ok (l : List S50) (e : List Int) (hl : l.length < 8796093022208) (hw : ∀ e ∈ l, e.f3.length ≤ 9223372036854775807) (hc : chk 0 l = none) :
    Ev (fun k => clean_Needed.f k l e) (needs e 0 (spans l), none) := by
  unfold clean_Needed.f
  refine ev_bind (Spans_ok l hl hw hc) (ev_pos rfl ?_)
  have := needed_ev e (spans l) (by rw [spans_length]; omega) (spans l).length 0 [] (by omega) (by simp)
  simpa using this

theorem Fast_ok (l : List S50) (e : List Int) (hl : l.length < 8796093022208) (hw : ∀ e ∈ l, e.f3.length ≤ 9223372036854775807) (hc : chk 0 l = none) :
    Ev (fun k => clean_Fast.f k l e) ((needs e 0 (spans l)).headD (l.length : Int), none) := by
  unfold clean_Fast.f
  refine ev_bind (Needed_ok l e hl hw hc) (ev_pos rfl ?_)
  cases h : needs e 0 (spans l) with
  | nil => exact ev_pos (by simp) (ev_some rfl)
  | cons a r =>
    refine ev_neg (by simp; omega) (ev_pos (by simp) (ev_some ?_))
    simp [rd]

theorem needs_mem (e : List Int) (x : Int) : ∀ (l : List S64) (i : Nat), x ∈ needs e i l ↔ ∃ j : Nat, ∃ h : j < l.length, x = ((i + j : Nat) : Int) ∧ lv e l[j] = true
  | [], i => by simp [needs]
  | s :: r, i => by
    have ih := needs_mem e x r (i + 1)
    have step : (∃ j : Nat, ∃ h : j < (s :: r).length, x = ((i + j : Nat) : Int) ∧ lv e (s :: r)[j] = true) ↔ (x = (i : Int) ∧ lv e s = true) ∨ x ∈ needs e (i + 1) r := by
      rw [ih]
      constructor
      · rintro ⟨j, h, hx, hl⟩
        cases j with
        | zero => exact .inl ⟨by simpa using hx, hl⟩
        | succ j => exact .inr ⟨j, by simpa using h, by rw [hx]; congr 1; omega, hl⟩
      · rintro (⟨hx, hl⟩ | ⟨j, h, hx, hl⟩)
        · exact ⟨0, by simp, by simpa using hx, hl⟩
        · exact ⟨j + 1, by simpa using h, by rw [hx]; congr 1; omega, hl⟩
    rw [step]
    show x ∈ (if lv e s = true then (i : Int) :: needs e (i + 1) r else needs e (i + 1) r) ↔ _
    by_cases hs : lv e s = true
    · rw [if_pos hs, List.mem_cons]
      simp [hs]
    · rw [if_neg hs]
      simp [hs]
theorem needs_ge (e : List Int) {x : Int} {l : List S64} {i : Nat} (h : x ∈ needs e i l) : (i : Int) ≤ x := by
  obtain ⟨j, _, rfl, _⟩ := (needs_mem e x l i).1 h
  omega
theorem needs_lt (e : List Int) {x : Int} {l : List S64} {i : Nat} (h : x ∈ needs e i l) : x < ((i + l.length : Nat) : Int) := by
  obtain ⟨j, hj, rfl, _⟩ := (needs_mem e x l i).1 h
  omega
/-- They rise. -/
theorem needs_head (e : List Int) (D : Int) : ∀ (l : List S64) (i : Nat), ∀ x ∈ needs e i l, (needs e i l).headD D ≤ x
  | [], i => by simp [needs]
  | s :: r, i => by
    intro x hx
    unfold needs at hx ⊢
    split
    · rename_i hs
      rw [if_pos hs] at hx
      simp only [List.headD_cons]
      rcases List.mem_cons.1 hx with rfl | hx
      · exact Int.le_refl _
      · have := needs_ge e hx; omega
    · rename_i hs
      rw [if_neg hs] at hx
      exact needs_head e D r (i + 1) x hx
end Go.Proofs.Ytacdocchcfbgcaa.PC
