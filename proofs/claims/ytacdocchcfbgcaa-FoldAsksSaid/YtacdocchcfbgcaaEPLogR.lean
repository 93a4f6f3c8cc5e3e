/-
  The reference's own words on whole logs (files, directories, checks) come to the same as the program's.
-/
import Derived.Test.YtacdocchcfbgcaaEPLog
import Derived.Test.YtacdocchcfbgcaaEPEntryR
import Derived.Test.YtacdocchcfbgcaaEx6
import Derived.Test.YtacdocchcfbgcaaEx9
import Derived.Test.YtacdocchcfbgcaaEx11
import Derived.Test.YtacdocchcfbgcaaEx12
set_option linter.unusedSimpArgs false
set_option linter.unusedVariables false
namespace Go.Proofs.Ytacdocchcfbgcaa.PC
open Go.RowKit Go.Proofs.Ytacdocchcfbgcaa.Q Go.Proofs.Ytacdocchcfbgcaa.PB Go.Proofs.YtacdocchcfbgcaaW.PrintWords Go.Proofs.YtacdocchcfbgcaaW.PrintLast Go.Proofs.YtacdocchcfbgcaaW.PrintMore
open Go.Proofs.Ytacdocchcfbgcaa.HDir (DL ins del kb Sorted leB_total leB_antisymm)

/-- The first that may not be where it is. -/
def chk (last : Int) : List S50 → Option Nat
  | [] => none
  | e :: r => if okS e = true then (if e.f1 < last then some 0 else (chk e.f1 r).map (· + 1)) else some 0
def chkAt (i : Nat) : Option Nat → Int × Option Int
  | none => (-1, none)
  | some j => ((i + j : Nat), some 1)
def chkAt' (i : Nat) : Option Nat → Int × Int
  | none => (-1, 0)
  | some j => ((i + j : Nat), 1)
theorem chkAt_succ (i : Nat) (o : Option Nat) : chkAt i (o.map (· + 1)) = chkAt (i + 1) o := by
  cases o <;> simp [chkAt]
  omega
theorem chkAt'_succ (i : Nat) (o : Option Nat) : chkAt' i (o.map (· + 1)) = chkAt' (i + 1) o := by
  cases o <;> simp [chkAt']
  omega

theorem fcheck_ev (l : List S50) (hl : l.length ≤ 9223372036854775807) (hw : ∀ e ∈ l, e.f3.length ≤ 9223372036854775807) :
    ∀ (d i : Nat) (last : Int), i + d = l.length → Ev (fun k => fold_Check.l0 k last l (l.length : Int) (i : Int)) (chkAt i (chk last (l.drop i))) := by
  intro d
  induction d with
  | zero =>
    intro i last hi
    refine ev_succ ?_
    simp only [fold_Check.l0]
    refine ev_neg (by omega) (ev_some ?_)
    rw [List.drop_eq_nil_of_le (by omega)]
    rfl
  | succ d ih =>
    intro i last hi
    have hlt : i < l.length := by omega
    refine ev_succ ?_
    simp only [fold_Check.l0]
    refine ev_pos (by omega) (ev_pos (by omega) (ev_pos (by omega) ?_))
    rw [rdE hlt, List.drop_eq_getElem_cons hlt]
    refine ev_bind (check_ev _ _ _ _ _ _ (hw _ (List.getElem_mem hlt))) ?_
    show Ev _ (chkAt i (if okS l[i] = true then _ else _))
    cases ho : okS l[i] with
    | false =>
      have ho' : okE l[i].f0 l[i].f1 l[i].f2 l[i].f3 l[i].f4 l[i].f5 = false := ho
      rw [ho']
      exact ev_neg (by simp) (ev_some (by simp [chkAt]))
    | true =>
      have ho' : okE l[i].f0 l[i].f1 l[i].f2 l[i].f3 l[i].f4 l[i].f5 = true := ho
      rw [ho']
      refine ev_pos (by simp) ?_
      rw [if_pos rfl]
      by_cases hc : l[i].f1 < last
      · rw [if_pos hc]
        exact ev_pos hc (ev_some (by simp [chkAt]))
      · rw [if_neg hc, chkAt_succ, wrap_succ hlt hl]
        exact ev_neg hc (ih (i + 1) _ (by omega))

theorem fold_check (l : List S50) (hl : l.length ≤ 9223372036854775807) (hw : ∀ e ∈ l, e.f3.length ≤ 9223372036854775807) :
    Ev (fun k => fold_Check.f k l) (chkAt 0 (chk 0 l)) := by
  have := fcheck_ev l hl hw l.length 0 0 (by omega)
  simpa [fold_Check.f] using this

theorem clog_ev (l : List S32) (hl : l.length ≤ 9223372036854775807) (hw : ∀ e ∈ l, e.f3.length ≤ 9223372036854775807) :
    ∀ (d i : Nat) (last : Int), i + d = l.length → (i = 0 → last = 0) → (∀ h : 0 < i, (h2 : i - 1 < l.length) → last = l[i - 1].f1) → Ev (fun k => dolmenref9_CheckLog.l0 k l (i : Int)) (chkAt' i (chk last ((l.drop i).map toE))) := by
  intro d
  induction d with
  | zero =>
    intro i last hi _ _
    refine ev_succ ?_
    simp only [dolmenref9_CheckLog.l0]
    refine ev_neg (by omega) (ev_some ?_)
    rw [List.drop_eq_nil_of_le (by omega)]
    rfl
  | succ d ih =>
    intro i last hi h0 h1
    have hlt : i < l.length := by omega
    refine ev_succ ?_
    simp only [dolmenref9_CheckLog.l0]
    refine ev_pos (by omega) (ev_pos (by omega) ?_)
    rw [rdR hlt, List.drop_eq_getElem_cons hlt, List.map_cons]
    refine ev_bind (centry_ev _ _ _ _ _ _ (hw _ (List.getElem_mem hlt))) ?_
    show Ev _ (chkAt' i (if okE l[i].f0 l[i].f1 l[i].f2 l[i].f3 l[i].f4 l[i].f5 = true then (if l[i].f1 < last then some 0 else (chk l[i].f1 ((l.drop (i + 1)).map toE)).map (· + 1)) else some 0))
    cases ho : okE l[i].f0 l[i].f1 l[i].f2 l[i].f3 l[i].f4 l[i].f5 with
    | false => exact ev_neg (by simp) (ev_some (by simp [chkAt']))
    | true =>
      refine ev_pos (by simp) ?_
      rw [if_pos rfl]
      have ih' := ih (i + 1) l[i].f1 (by omega) (by omega) (fun _ h2 => by simp)
      by_cases hz : i = 0
      · have hl0 := h0 hz
        subst hl0
        have he : ¬ l[i].f1 < 0 := by
          unfold okE within at ho
          simp at ho
          omega
        rw [if_neg he, chkAt'_succ, wrap_succ hlt hl]
        exact ev_neg (by omega) ih'
      · have hp : i - 1 < l.length := by omega
        have hl1 := h1 (by omega) hp
        subst hl1
        rw [wrap_in (x := (i : Int) - 1) (by omega) (by omega), show ((i : Int) - 1) = ((i - 1 : Nat) : Int) by omega, rdR hp]
        refine ev_pos (by omega) (ev_pos (by omega) (ev_pos (by omega) ?_))
        by_cases hc : l[i].f1 < l[i - 1].f1
        · rw [if_pos hc]
          exact ev_pos hc (ev_some (by simp [chkAt']))
        · rw [if_neg hc, chkAt'_succ, wrap_succ hlt hl]
          exact ev_neg hc ih'

theorem check_log (l : List S32) (hl : l.length ≤ 9223372036854775807) (hw : ∀ e ∈ l, e.f3.length ≤ 9223372036854775807) :
    Ev (fun k => dolmenref9_CheckLog.f k l) (chkAt' 0 (chk 0 (l.map toE))) := by
  have := clog_ev l hl hw l.length 0 0 (by omega) (by simp) (by omega)
  simpa [dolmenref9_CheckLog.f] using this


/-! ### a file -/
theorem wrC_sized (b : List Int) (n : Nat) : wrC b n = sizedL b n := by
  unfold wrC sizedL
  rw [List.drop_replicate]
  rcases Nat.le_total b.length n with h | h
  · rw [Nat.min_eq_left h, List.take_of_length_le (Nat.le_refl _), List.take_of_length_le h]
  · rw [Nat.min_eq_right h, Nat.sub_self, Nat.sub_eq_zero_of_le h]
theorem rwrite (b : List Int) (e : S32) (hb : b.length ≤ 2000) (h : okS (toE e) = true) (hk : e.f0 ≤ 2) : dolmenref9_write.f b e.f0 e.f1 e.f2 e.f3 e.f4 e.f5 = some (nextL b (toE e)) := by
  have h' : okE e.f0 e.f1 e.f2 e.f3 e.f4 e.f5 = true := h
  have hn : nextL b (toE e) = if okE e.f0 e.f1 e.f2 e.f3 e.f4 e.f5 = true then (if e.f0 = 1 then putL (sizedL b (max b.length (e.f2.toNat + e.f3.length))) e.f3 e.f2.toNat else if e.f0 = 2 then sizedL b e.f2.toNat else b) else b := rfl
  rw [hn, if_pos h']
  unfold dolmenref9_write.f
  by_cases k2 : e.f0 = 2
  · rw [k2] at h'
    have := okE2 h'
    rw [if_pos k2, if_pos (show 0 ≤ e.f2 ∧ e.f2 ≤ 100000 by omega), wrC_sized, if_neg (by omega), if_pos k2]
  · have k1 : e.f0 = 1 := by
      have h2 := h'
      unfold okE at h2
      by_cases q1 : e.f0 = 1
      · exact q1
      · rw [if_neg q1, if_neg k2, if_neg (by omega), if_neg (by omega), if_neg (by omega)] at h2
        simp at h2
    rw [k1] at h'
    have := okE1 h'
    have hc : 0 ≤ e.f2 ∧ 0 < e.f3.length ∧ e.f2.toNat + e.f3.length ≤ 100000 ∧ b.length ≤ 100000 := ⟨this.1, this.2.1, by omega, by omega⟩
    rw [if_neg k2, if_pos k1, if_pos hc, wrC_sized]
    rfl
theorem nextL_else (b : List Int) (e : S50) (h : ¬ (okS e = true ∧ e.f0 ≤ 2)) : nextL b e = b := by
  unfold nextL
  by_cases ho : okS e = true
  · rw [if_pos ho]
    by_cases k1 : e.f0 = 1
    · exact absurd ⟨ho, by omega⟩ h
    · by_cases k2 : e.f0 = 2
      · exact absurd ⟨ho, by omega⟩ h
      · rw [if_neg k1, if_neg k2]
  · rw [if_neg ho]
theorem rfile_l0 (l : List S32) (ep : Int) (hl : l.length ≤ 1000) (hd : ∀ e ∈ l, e.f3.length ≤ 9223372036854775807) :
    ∀ (n i : Nat) (b : List Int), i + n = l.length → b.length ≤ 2000 → Ev (fun k => dolmenref9_File.l0 k l ep b (i : Int)) (fileL ((l.drop i).map toE) ep b) := by
  intro n
  induction n with
  | zero =>
    intro i b hi hb
    refine ev_succ ?_
    simp only [dolmenref9_File.l0]
    refine ev_neg (by omega) (ev_some ?_)
    rw [List.drop_eq_nil_of_le (by omega)]
    rfl
  | succ n ih =>
    intro i b hi hb
    have hlt : i < l.length := by omega
    refine ev_succ ?_
    simp only [dolmenref9_File.l0]
    unfold fileL
    rw [rdR hlt, wrap_succ hlt (by omega), List.drop_eq_getElem_cons hlt, List.map_cons, List.filter_cons]
    refine ev_pos (by omega) (ev_pos (by omega) ?_)
    by_cases hq : l[i].f1 ≤ ep
    · rw [if_pos (show decide ((toE l[i]).f1 ≤ ep) = true from decide_eq_true hq), List.foldl_cons]
      refine ev_pos hq (ev_bind (centry_ev _ _ _ _ _ _ (hd _ (List.getElem_mem hlt))) ?_)
      have hnl := nextL_le b (toE l[i]) 2000 (by omega) (by omega) hb
      have next := ih (i + 1) (nextL b (toE l[i])) (by omega) hnl
      unfold fileL at next
      by_cases ho : okE l[i].f0 l[i].f1 l[i].f2 l[i].f3 l[i].f4 l[i].f5 = true
      · rw [if_pos ho]
        refine ev_pos rfl ?_
        by_cases hk : l[i].f0 ≤ 2
        · exact ev_pos hk (ev_bind (ev_const (rwrite b l[i] hb ho hk)) next)
        · rw [nextL_else b (toE l[i]) (fun h => hk h.2)] at next ⊢
          exact ev_neg hk next
      · rw [if_neg ho]
        rw [nextL_else b (toE l[i]) (fun h => ho h.1)] at next ⊢
        exact ev_neg (by decide) next
    · rw [if_neg (by rw [decide_eq_true_iff]; exact hq)]
      exact ev_neg hq (ih (i + 1) b (by omega) hb)
theorem rfile_ev (l : List S32) (ep : Int) (hl : l.length ≤ 1000) (hd : ∀ e ∈ l, e.f3.length ≤ 9223372036854775807) : Ev (fun k => dolmenref9_File.f k l ep) (fileL (l.map toE) ep []) :=
  rfile_l0 l ep hl hd l.length 0 [] (by omega) (by simp)

/-! ### a directory -/
theorem bl_toList (s : ByteArray) : s.toList = s.data.toList := ByteArray.toList_eq s
theorem less_lt : ∀ x y : List UInt8, Op.bytesLess x y = decide (x < y)
  | [], [] => by simp [Op.bytesLess]
  | [], _ :: _ => by simp [Op.bytesLess]
  | _ :: _, [] => by simp [Op.bytesLess]
  | a :: x, b :: y => by
    rw [Op.bytesLess, less_lt x y]
    by_cases h1 : a < b <;> by_cases h2 : a = b <;> by_cases h3 : x < y <;> simp [List.cons_lt_cons_iff, h1, h2, h3]
theorem less_leB (a b : ByteArray) : (!(Op.bytesLess a.toList b.toList)) = Go.leB (kb b) (kb a) := by
  rw [bl_toList, bl_toList, less_lt]
  show (!decide (kb a < kb b)) = decide (kb b ≤ kb a)
  rw [Bool.eq_iff_iff]
  simp [List.not_lt]
theorem toList_eq {a b : ByteArray} : a.toList = b.toList ↔ a = b := by
  rw [bl_toList, bl_toList]
  exact ⟨fun h => Go.Proofs.Ytacdocchcfbgcaa.HDir.kb_inj h, fun h => by rw [h]⟩
theorem del_cons (s : ByteArray) (p : ByteArray × Int) (D : DL) : del s (p :: D) = if p.1 = s then del s D else p :: del s D := by
  unfold del
  rw [List.filter_cons]
  by_cases h : p.1 = s
  · rw [if_pos h, if_neg (by rw [decide_eq_true_iff]; exact fun hn => hn h)]
  · rw [if_neg h, if_pos (decide_eq_true h)]
theorem del_all (s : ByteArray) {D : DL} (h : ∀ p ∈ D, p.1 ≠ s) : del s D = D := by
  unfold del
  rw [List.filter_eq_self]
  exact fun p hp => decide_eq_true (h p hp)
theorem nmL_snoc (A : DL) (p : ByteArray × Int) : nmL A ++ [p.1] = nmL (A ++ [p]) := by unfold nmL; rw [List.map_append]; rfl
theorem noL_snoc (A : DL) (p : ByteArray × Int) : noL A ++ [p.2] = noL (A ++ [p]) := by unfold noL; rw [List.map_append]; rfl
theorem nmL_len (D : DL) : (nmL D).length = D.length := List.length_map _
theorem noL_len (D : DL) : (noL D).length = D.length := List.length_map _
theorem nmL_at {D : DL} {j : Nat} (h : j < D.length) : rdOf ByteArray.empty (nmL D) (j : Int) = D[j].1 := by
  rw [rdB (by rw [nmL_len]; exact h)]
  unfold nmL
  rw [List.getElem_map]
theorem noL_at {D : DL} {j : Nat} (h : j < D.length) : rd (noL D) (j : Int) = D[j].2 := by
  rw [rd_nat (by rw [noL_len]; exact h)]
  unfold noL
  rw [List.getElem_map]
theorem rd_done (l : List S32) (ep i : Int) (D : DL) (hD : D.length ≤ 1000) (e0 e1 e2 e5 : Int) (e3 : List Int) (s : ByteArray) (r : List ByteArray × List Int) :
    ∀ (n j : Nat) (A : DL), j + n = D.length → A.length + n ≤ 3000 → Ev (fun k => dolmenref9_Dir.l0 k l ep (nmL (A ++ del s (D.drop j))) (noL (A ++ del s (D.drop j))) (wrap64 (i + 1))) r →
      Ev (fun k => dolmenref9_Dir.l1 k l ep (nmL D) (noL D) i (nmL A) (noL A) true (j : Int) e0 e1 e2 e3 s e5) r := by
  have hnm := nmL_len D
  have hno := noL_len D
  intro n
  induction n with
  | zero =>
    intro j A hj hA h
    rw [List.drop_eq_nil_of_le (by omega)] at h
    have h' : Ev (fun k => dolmenref9_Dir.l0 k l ep (nmL A) (noL A) (wrap64 (i + 1))) r := by
      have : A ++ del s [] = A := List.append_nil A
      rw [this] at h
      exact h
    refine ev_succ ?_
    simp only [dolmenref9_Dir.l1]
    exact ev_neg (by omega) (ev_pos trivial h')
  | succ n ih =>
    intro j A hj hA h
    have hlt : j < D.length := by omega
    have hAn := nmL_len A
    have hAo := noL_len A
    rw [List.drop_eq_getElem_cons hlt, del_cons] at h
    refine ev_succ ?_
    simp only [dolmenref9_Dir.l1]
    refine ev_pos (by omega) (ev_pos trivial (ev_succ ?_))
    simp only [dolmenref9_Dir.j3]
    rw [nmL_at hlt, noL_at hlt, wrap_succ hlt (by omega), nmL_snoc, noL_snoc]
    refine ev_neg (by decide) (ev_pos (by omega) (ev_pos (by omega) ?_))
    by_cases hq : D[j].1 = s
    · rw [if_pos hq] at h
      exact ev_pos (toList_eq.2 hq) (ih (j + 1) A (by omega) (by omega) h)
    · rw [if_neg hq] at h
      refine ev_neg (fun hn => hq (toList_eq.1 hn)) (ev_pos (by omega) (ev_pos (by omega) (ev_pos (by omega) (ih (j + 1) (A ++ [D[j]]) (by omega) (by rw [List.length_append, List.length_singleton]; omega) ?_))))
      rw [List.append_assoc]
      exact h
theorem rd_ins (l : List S32) (ep i : Int) (D : DL) (hD : D.length ≤ 1000) (hS : Sorted D) (e0 e1 e2 e5 : Int) (e3 : List Int) (s : ByteArray) (r : List ByteArray × List Int) :
    ∀ (n j : Nat) (A : DL), j + n = D.length → A.length + n ≤ 2000 → Ev (fun k => dolmenref9_Dir.l0 k l ep (nmL (A ++ ins s e5 (D.drop j))) (noL (A ++ ins s e5 (D.drop j))) (wrap64 (i + 1))) r →
      Ev (fun k => dolmenref9_Dir.l1 k l ep (nmL D) (noL D) i (nmL A) (noL A) false (j : Int) e0 e1 e2 e3 s e5) r := by
  have hnm := nmL_len D
  have hno := noL_len D
  intro n
  induction n with
  | zero =>
    intro j A hj hA h
    have hAn := nmL_len A
    have hAo := noL_len A
    rw [List.drop_eq_nil_of_le (by omega)] at h
    refine ev_succ ?_
    simp only [dolmenref9_Dir.l1]
    refine ev_neg (by omega) (ev_neg (by decide) (ev_pos (by omega) (ev_pos (by omega) ?_)))
    rw [show nmL A ++ [s] = nmL (A ++ [(s, e5)]) from nmL_snoc A (s, e5), show noL A ++ [e5] = noL (A ++ [(s, e5)]) from noL_snoc A (s, e5)]
    exact h
  | succ n ih =>
    intro j A hj hA h
    have hlt : j < D.length := by omega
    have hAn := nmL_len A
    have hAo := noL_len A
    have hA1 : (A ++ [(s, e5)]).length = A.length + 1 := by rw [List.length_append]; rfl
    have hA1n := nmL_len (A ++ [(s, e5)])
    have hA1o := noL_len (A ++ [(s, e5)])
    rw [List.drop_eq_getElem_cons hlt] at h
    have hSd : Sorted (D.drop j) := List.Pairwise.drop hS
    rw [List.drop_eq_getElem_cons hlt] at hSd
    obtain ⟨hS1, hS2⟩ := List.pairwise_cons.1 hSd
    refine ev_succ ?_
    simp only [dolmenref9_Dir.l1]
    refine ev_pos (by omega) (ev_neg (by decide) (ev_pos (by omega) (ev_succ ?_)))
    simp only [dolmenref9_Dir.j3]
    rw [nmL_at hlt, noL_at hlt, wrap_succ hlt (by omega), less_leB]
    by_cases hle : Go.leB (kb s) (kb D[j].1) = true
    · rw [hle]
      rw [show nmL A ++ [s] = nmL (A ++ [(s, e5)]) from nmL_snoc A (s, e5), show noL A ++ [e5] = noL (A ++ [(s, e5)]) from noL_snoc A (s, e5)]
      refine ev_pos rfl (ev_pos (by omega) (ev_bind (ev_const rfl) (ev_pos (by omega) (ev_bind (ev_const rfl) (ev_pos (by omega) (ev_pos (by omega) ?_))))))
      have hrest : ∀ p ∈ D.drop (j + 1), p.1 ≠ s := by
        intro p hp e
        refine (hS1 p hp).2 (Go.Proofs.Ytacdocchcfbgcaa.HDir.kb_inj (leB_antisymm (hS1 p hp).1 ?_))
        rw [e]
        exact hle
      have hdel := del_all s hrest
      by_cases hq : D[j].1 = s
      · have hi : ins s e5 (D[j] :: D.drop (j + 1)) = (s, e5) :: D.drop (j + 1) := by
          unfold ins
          rw [if_pos hq]
        rw [hi] at h
        refine ev_pos (toList_eq.2 hq) (rd_done l ep i D hD e0 e1 e2 e5 e3 s r n (j + 1) (A ++ [(s, e5)]) (by omega) (by omega) ?_)
        rw [hdel, List.append_assoc]
        exact h
      · have hi : ins s e5 (D[j] :: D.drop (j + 1)) = (s, e5) :: D[j] :: D.drop (j + 1) := by
          unfold ins
          rw [if_neg hq, if_pos hle]
        rw [hi] at h
        rw [nmL_snoc, noL_snoc]
        refine ev_neg (fun hn => hq (toList_eq.1 hn)) (ev_pos (by omega) (ev_pos (by omega) (ev_pos (by omega) (rd_done l ep i D hD e0 e1 e2 e5 e3 s r n (j + 1) (A ++ [(s, e5)] ++ [D[j]]) (by omega) (by rw [List.length_append, hA1]; simp; omega) ?_))))
        rw [hdel, List.append_assoc, List.append_assoc]
        exact h
    · have hle' : Go.leB (kb s) (kb D[j].1) = false := Bool.eq_false_iff.2 hle
      rw [hle']
      have hq : ¬ D[j].1 = s := by
        intro e
        rw [e] at hle
        exact hle (Go.Proofs.Ytacdocchcfbgcaa.HDir.leB_refl _)
      have hi : ins s e5 (D[j] :: D.drop (j + 1)) = D[j] :: ins s e5 (D.drop (j + 1)) := by
        rw [ins, if_neg hq, if_neg hle]
      rw [hi] at h
      rw [nmL_snoc A D[j], noL_snoc A D[j]]
      refine ev_neg (by decide) (ev_pos (by omega) (ev_pos (by omega) (ev_neg (fun hn => hq (toList_eq.1 hn)) (ev_pos (by omega) (ev_pos (by omega) (ev_pos (by omega) (ih (j + 1) (A ++ [D[j]]) (by omega) (by rw [List.length_append, List.length_singleton]; omega) ?_)))))))
      rw [List.append_assoc]
      exact h
theorem dirS_sorted {D : DL} (h : Sorted D) (e : S50) : Sorted (dirS D e) := by
  unfold dirS
  split
  · split
    · exact Go.Proofs.Ytacdocchcfbgcaa.HDir.sorted_ins _ _ h
    · split
      · exact Go.Proofs.Ytacdocchcfbgcaa.HDir.sorted_del _ h
      · exact h
  · exact h
theorem dirL_cons (e : S50) (l : List S50) (ep : Int) (D : DL) : dirL (e :: l) ep D = if e.f1 ≤ ep then dirL l ep (dirS D e) else dirL l ep D := by
  unfold dirL
  rw [List.filter_cons]
  by_cases h : e.f1 ≤ ep
  · rw [if_pos h, if_pos (decide_eq_true h), List.foldl_cons]
  · rw [if_neg h, if_neg (by rw [decide_eq_true_iff]; exact h)]
theorem rdir_l0 (l : List S32) (ep : Int) (hl : l.length ≤ 1000) (hd : ∀ e ∈ l, e.f3.length ≤ 9223372036854775807) :
    ∀ (n i : Nat) (D : DL), i + n = l.length → D.length ≤ i → Sorted D → Ev (fun k => dolmenref9_Dir.l0 k l ep (nmL D) (noL D) (i : Int)) (nmL (dirL ((l.drop i).map toE) ep D), noL (dirL ((l.drop i).map toE) ep D)) := by
  intro n
  induction n with
  | zero =>
    intro i D hi hD hS
    refine ev_succ ?_
    simp only [dolmenref9_Dir.l0]
    refine ev_neg (by omega) (ev_some ?_)
    rw [List.drop_eq_nil_of_le (by omega)]
    rfl
  | succ n ih =>
    intro i D hi hD hS
    have hlt : i < l.length := by omega
    rw [List.drop_eq_getElem_cons hlt, List.map_cons, dirL_cons]
    refine ev_succ ?_
    simp only [dolmenref9_Dir.l0]
    rw [rdR hlt]
    have skip : ∀ f0 f1 f2 f3 f4 f5 r, Ev (fun k => dolmenref9_Dir.l0 k l ep (nmL D) (noL D) ((i + 1 : Nat) : Int)) r → Ev (fun k => dolmenref9_Dir.j1 k l ep (nmL D) (noL D) (i : Int) true f0 f1 f2 f3 f4 f5) r := by
      intro f0 f1 f2 f3 f4 f5 r h
      refine ev_succ ?_
      simp only [dolmenref9_Dir.j1]
      rw [wrap_succ hlt (by omega)]
      exact ev_pos trivial h
    refine ev_pos (by omega) (ev_pos (by omega) ?_)
    by_cases hq : l[i].f1 > ep
    · rw [if_neg (show ¬ (toE l[i]).f1 ≤ ep by show ¬ l[i].f1 ≤ ep; omega)]
      exact ev_pos hq (skip _ _ _ _ _ _ _ (ih (i + 1) D (by omega) (by omega) hS))
    · rw [if_pos (show (toE l[i]).f1 ≤ ep by show l[i].f1 ≤ ep; omega)]
      refine ev_neg hq (ev_bind (centry_ev _ _ _ _ _ _ (hd _ (List.getElem_mem hlt))) ?_)
      have hdS : dirS D (toE l[i]) = if okE l[i].f0 l[i].f1 l[i].f2 l[i].f3 l[i].f4 l[i].f5 = true then (if l[i].f0 = 3 then ins l[i].f4 l[i].f5 D else if l[i].f0 = 4 then del l[i].f4 D else D) else D := rfl
      have hle := dirS_le D (toE l[i])
      have next := ih (i + 1) (dirS D (toE l[i])) (by omega) (by omega) (dirS_sorted hS _)
      by_cases ho : okE l[i].f0 l[i].f1 l[i].f2 l[i].f3 l[i].f4 l[i].f5 = true
      · rw [if_pos ho]
        rw [if_pos ho] at hdS
        refine ev_pos rfl ?_
        by_cases k3 : l[i].f0 = 3
        · rw [if_pos k3] at hdS
          rw [hdS] at next ⊢
          refine ev_pos k3 (ev_succ ?_)
          simp only [dolmenref9_Dir.j1]
          rw [show (l[i].f0 == 4) = false by rw [k3]; rfl]
          refine ev_neg (by decide) (rd_ins l ep (i : Int) D (by omega) hS _ _ _ _ _ _ _ D.length 0 [] (by omega) (by simp; omega) ?_)
          rw [wrap_succ hlt (by omega)]
          exact next
        · rw [if_neg k3] at hdS
          refine ev_neg k3 ?_
          by_cases k4 : l[i].f0 = 4
          · rw [if_pos k4] at hdS
            rw [hdS] at next ⊢
            rw [show (l[i].f0 != 4) = false by rw [k4]; rfl]
            refine ev_succ ?_
            simp only [dolmenref9_Dir.j1]
            rw [show (l[i].f0 == 4) = true by rw [k4]; rfl]
            refine ev_neg (by decide) (rd_done l ep (i : Int) D (by omega) _ _ _ _ _ _ _ D.length 0 [] (by omega) (by simp; omega) ?_)
            rw [wrap_succ hlt (by omega)]
            exact next
          · rw [if_neg k4] at hdS
            rw [hdS] at next ⊢
            rw [show (l[i].f0 != 4) = true by rw [bne_iff_ne]; exact k4]
            exact skip _ _ _ _ _ _ _ next
      · rw [if_neg ho]
        rw [if_neg ho] at hdS
        rw [hdS] at next ⊢
        exact ev_neg (by decide) (skip _ _ _ _ _ _ _ next)
theorem rdir_ev (l : List S32) (ep : Int) (hl : l.length ≤ 1000) (hd : ∀ e ∈ l, e.f3.length ≤ 9223372036854775807) : Ev (fun k => dolmenref9_Dir.f k l ep) (nmL (dirL (l.map toE) ep []), noL (dirL (l.map toE) ep [])) :=
  rdir_l0 l ep hl hd l.length 0 [] (by omega) (Nat.le_refl _) List.Pairwise.nil
end Go.Proofs.Ytacdocchcfbgcaa.PC
