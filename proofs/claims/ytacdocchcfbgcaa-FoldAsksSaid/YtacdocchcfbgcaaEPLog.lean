/-
  What the printed functions of fold come to, of whole logs: files, directories, both told twice.
-/
import Derived.Test.YtacdocchcfbgcaaEPFold
import Derived.Test.YtacdocchcfbgcaaEx2
import Derived.Test.YtacdocchcfbgcaaEx6
import Derived.Test.YtacdocchcfbgcaaEx10
import Derived.Test.YtacdocchcfbgcaaEx10
import Derived.Test.YtacdocchcfbgcaaEx10
set_option linter.unusedSimpArgs false
set_option linter.unusedVariables false
namespace Go.Proofs.Ytacdocchcfbgcaa.PC
open Go.RowKit Go.Proofs.Ytacdocchcfbgcaa.Q Go.Proofs.Ytacdocchcfbgcaa.PB Go.Proofs.YtacdocchcfbgcaaW.PrintWords Go.Proofs.YtacdocchcfbgcaaW.PrintLast Go.Proofs.YtacdocchcfbgcaaW.PrintMore
open Go.Proofs.Ytacdocchcfbgcaa.HDir (DL ins del)

theorem fs_sum (l : List Int) (hl : l.length ≤ 9223372036854775807) :
    ∀ (d i : Nat) (n : Int), i + d = l.length → ∃ t, Ev (fun k => dolmenalike_Sum.l0 k n l (i : Int)) t := by
  intro d
  induction d with
  | zero =>
    intro i n hi
    refine ⟨n, ev_succ ?_⟩
    simp only [dolmenalike_Sum.l0]
    exact ev_neg (by omega) (ev_some rfl)
  | succ d ih =>
    intro i n hi
    have hlt : i < l.length := by omega
    by_cases h1 : n > 1099511627776
    · refine ⟨1099511627776, ev_succ ?_⟩
      simp only [dolmenalike_Sum.l0]
      exact ev_pos (by omega) (ev_pos h1 (ev_some rfl))
    · by_cases h2 : (rd l (i : Int)) > (wrap64 (1099511627776 - n))
      · refine ⟨1099511627776, ev_succ ?_⟩
        simp only [dolmenalike_Sum.l0]
        exact ev_pos (by omega) (ev_neg h1 (ev_pos (by omega) (ev_pos h2 (ev_some rfl))))
      · obtain ⟨t, ht⟩ := ih (i + 1) (wrap64 (n + rd l (i : Int))) (by omega)
        refine ⟨t, ev_succ ?_⟩
        simp only [dolmenalike_Sum.l0]
        rw [wrap_succ hlt hl]
        exact ev_pos (by omega) (ev_neg h1 (ev_pos (by omega) (ev_neg h2 ht)))
theorem fs_small_any (l : List S32) (hl : l.length ≤ 9223372036854775807) :
    ∀ (d i : Nat) (n : Int), i + d = l.length → ∃ b, Ev (fun k => dolmenlaw13_small.l0 k l n (i : Int)) b ∧ (b = true → l.length ≤ 50) := by
  intro d
  induction d with
  | zero =>
    intro i n hi
    refine ⟨decide ((l.length : Int) ≤ 50), ev_succ ?_, fun hb => by have := of_decide_eq_true hb; omega⟩
    simp only [dolmenlaw13_small.l0]
    exact ev_neg (by omega) (ev_some rfl)
  | succ d ih =>
    intro i n hi
    have hlt : i < l.length := by omega
    obtain ⟨t, ht⟩ := fs_sum [(((rd_T32 l (i : Int)).f3).length : Int), (((rd_T32 l (i : Int)).f4).size : Int), 1] (by simp) 3 0 n rfl
    have ht' : Ev (fun k => dolmenalike_Sum.f k n [(((rd_T32 l (i : Int)).f3).length : Int), (((rd_T32 l (i : Int)).f4).size : Int), 1]) t := by simpa [dolmenalike_Sum.f] using ht
    by_cases h : t > 5000
    · refine ⟨false, ev_succ ?_, fun hb => by cases hb⟩
      simp only [dolmenlaw13_small.l0]
      exact ev_pos (by omega) (ev_pos (by omega) (ev_bind ht' (ev_pos h (ev_some rfl))))
    · obtain ⟨b, hb, hb2⟩ := ih (i + 1) t (by omega)
      refine ⟨b, ev_succ ?_, hb2⟩
      simp only [dolmenlaw13_small.l0]
      rw [wrap_succ hlt hl]
      exact ev_pos (by omega) (ev_pos (by omega) (ev_bind ht' (ev_neg h hb)))
theorem fs_small (l : List S32) (hl : l.length ≤ 9223372036854775807) : ∃ b, Ev (fun k => dolmenlaw13_small.f k l) b ∧ (b = true → l.length ≤ 50) := by
  obtain ⟨b, hb, h2⟩ := fs_small_any l hl l.length 0 0 (by omega)
  exact ⟨b, by simpa [dolmenlaw13_small.f] using hb, h2⟩
theorem fs_made_ev (l : List S32) (hl : l.length < 1954687338268) :
    ∀ (d i : Nat) (acc : List S50), i + d = l.length → acc.length = i → Ev (fun k => dolmenlaw13_made.l0 k l acc (i : Int)) (acc ++ (l.drop i).map toE) := by
  intro d
  induction d with
  | zero =>
    intro i acc hi ha
    refine ev_succ ?_
    simp only [dolmenlaw13_made.l0]
    refine ev_neg (by omega) (ev_some ?_)
    rw [List.drop_eq_nil_of_le (by omega)]
    simp
  | succ d ih =>
    intro i acc hi ha
    have hlt : i < l.length := by omega
    refine ev_succ ?_
    simp only [dolmenlaw13_made.l0]
    refine ev_pos (by omega) (ev_pos (by omega) (ev_pos (by omega) ?_))
    rw [rdR hlt, wrap_succ hlt (by omega), List.drop_eq_getElem_cons hlt, List.map_cons]
    have := ih (i + 1) (acc ++ [toE l[i]]) (by omega) (by simp [ha])
    rw [List.append_assoc] at this
    exact this
theorem fs_made (l : List S32) (hl : l.length < 1954687338268) : Ev (fun k => dolmenlaw13_made.f k l) (l.map toE) := by
  have := fs_made_ev l hl l.length 0 [] (by omega) rfl
  simpa [dolmenlaw13_made.f] using this

/-! ### a file -/
def fileL (l : List S50) (ep : Int) (b : List Int) : List Int := (l.filter fun e => decide (e.f1 ≤ ep)).foldl nextL b
theorem file_l0 (l : List S50) (ep : Int) (hl : l.length ≤ 1000) (hd : ∀ e ∈ l, e.f3.length ≤ 9223372036854775807) :
    ∀ (n i : Nat) (b : List Int), i + n = l.length → b.length ≤ 2000 → Ev (fun k => fold_File.l0 k ep b l (l.length : Int) (i : Int)) (fileL (l.drop i) ep b) := by
  intro n
  induction n with
  | zero =>
    intro i b hi hb
    refine ev_succ ?_
    simp only [fold_File.l0]
    refine ev_neg (by omega) (ev_some ?_)
    rw [List.drop_eq_nil_of_le (by omega)]
    rfl
  | succ n ih =>
    intro i b hi hb
    have hlt : i < l.length := by omega
    refine ev_succ ?_
    simp only [fold_File.l0]
    unfold fileL
    rw [rdE hlt, wrap_succ hlt (by omega), List.drop_eq_getElem_cons hlt, List.filter_cons]
    refine ev_pos (by omega) (ev_pos (by omega) (ev_pos (by omega) ?_))
    by_cases hq : l[i].f1 ≤ ep
    · rw [if_pos (decide_eq_true hq), List.foldl_cons]
      exact ev_pos hq (ev_bind (next_ev b l[i] (by omega) (hd _ (List.getElem_mem hlt))) (ih (i + 1) (nextL b l[i]) (by omega) (nextL_le b l[i] 2000 (by omega) (by omega) hb)))
    · rw [if_neg (by rw [decide_eq_true_iff]; exact hq)]
      exact ev_neg hq (ih (i + 1) b (by omega) hb)
theorem file_ev (l : List S50) (ep : Int) (hl : l.length ≤ 1000) (hd : ∀ e ∈ l, e.f3.length ≤ 9223372036854775807) : Ev (fun k => fold_File.f k l ep) (fileL l ep []) :=
  file_l0 l ep hl hd l.length 0 [] (by omega) (by simp)
theorem fileL_cons (e : S50) (l : List S50) (ep : Int) (b : List Int) (h : e.f1 ≤ ep) : fileL (e :: l) ep b = fileL l ep (nextL b e) := by
  unfold fileL
  rw [List.filter_cons, if_pos (decide_eq_true h), List.foldl_cons]
theorem fileL_append (l m : List S50) (ep : Int) (b : List Int) : fileL (l ++ m) ep b = fileL m ep (fileL l ep b) := by
  unfold fileL
  rw [List.filter_append, List.foldl_append]
/-! ### a directory -/
theorem okE3 {e o : Int} {d : List Int} {s : ByteArray} {i : Int} (h : okE 3 e o d s i = true) : s.size ≤ 12 ∧ 1 ≤ i ∧ i ≤ 1073741824 := by
  unfold okE within at h
  simp at h
  omega
theorem okE4 {e o : Int} {d : List Int} {s : ByteArray} {i : Int} (h : okE 4 e o d s i = true) : s.size ≤ 12 := by
  unfold okE within at h
  simp at h
  omega
def dirS (D : DL) (e : S50) : DL := if okS e = true then (if e.f0 = 3 then ins e.f4 e.f5 D else if e.f0 = 4 then del e.f4 D else D) else D
def dirL (l : List S50) (ep : Int) (D : DL) : DL := (l.filter fun e => decide (e.f1 ≤ ep)).foldl dirS D
theorem dirStep_ev (ep : Int) (e : S50) (D : DL) (hd : e.f3.length ≤ 9223372036854775807) : Ev (fun k => dirStep k ep e D) (if e.f1 ≤ ep then dirS D e else D) := by
  unfold dirStep
  by_cases h1 : e.f1 > ep
  · have e2 : (if e.f1 ≤ ep then dirS D e else D) = D := if_neg (by omega)
    rw [e2]
    exact ev_pos h1 (ev_some rfl)
  have e2 : (if e.f1 ≤ ep then dirS D e else D) = dirS D e := if_pos (by omega)
  rw [e2]
  refine ev_neg h1 (ev_bind (check_ev _ _ _ _ _ _ hd) ?_)
  have e3 : dirS D e = if okE e.f0 e.f1 e.f2 e.f3 e.f4 e.f5 = true then (if e.f0 = 3 then ins e.f4 e.f5 D else if e.f0 = 4 then del e.f4 D else D) else D := rfl
  rw [e3]
  by_cases h : okE e.f0 e.f1 e.f2 e.f3 e.f4 e.f5 = true
  · rw [if_pos h, if_pos h]
    refine ev_pos rfl ?_
    by_cases k3 : e.f0 = 3
    · rw [if_pos k3, if_pos k3]
      rw [k3] at h
      exact ev_pos (okE3 h) (ev_some rfl)
    · rw [if_neg k3, if_neg k3]
      by_cases k4 : e.f0 = 4
      · rw [if_pos k4, if_pos k4]
        rw [k4] at h
        exact ev_pos (okE4 h) (ev_some rfl)
      · rw [if_neg k4, if_neg k4]
        exact ev_some rfl
  · rw [if_neg h, if_neg h]
    exact ev_neg (by simp) (ev_some rfl)
theorem dirF_ev (ep : Int) : ∀ (l : List S50) (D : DL), (∀ e ∈ l, e.f3.length ≤ 9223372036854775807) → Ev (fun k => dirF k ep l D) (dirL l ep D)
  | [], D, _ => ev_some rfl
  | e :: r, D, hd => by
    have h1 := dirStep_ev ep e D (hd e List.mem_cons_self)
    have h2 := dirF_ev ep r (if e.f1 ≤ ep then dirS D e else D) (fun x hx => hd x (List.mem_cons_of_mem _ hx))
    refine ev_eq (ev_bind h1 h2) ?_
    unfold dirL
    rw [List.filter_cons]
    by_cases h : e.f1 ≤ ep
    · rw [if_pos h, if_pos (decide_eq_true h), List.foldl_cons]
    · rw [if_neg h, if_neg (by rw [decide_eq_true_iff]; exact h)]
def nmL (D : DL) : List ByteArray := D.map (·.1)
def noL (D : DL) : List Int := D.map (·.2)
theorem dir_ev (l : List S50) (ep : Int) (hl : l.length ≤ 1000) (hd : ∀ e ∈ l, e.f3.length ≤ 9223372036854775807) : Ev (fun k => fold_Dir.f k l ep) (nmL (dirL l ep []), noL (dirL l ep [])) := by
  obtain ⟨K, hK⟩ := dirF_ev ep l [] hd
  refine ⟨K, fun k hk => ?_⟩
  show fold_Dir.f k l ep = _
  unfold fold_Dir.f
  have h' : dirF k ep l [] = some (dirL l ep []) := hK k hk
  rw [if_pos (by omega), h']
  rfl
theorem dirS_le (D : DL) (e : S50) : (dirS D e).length ≤ D.length + 1 := by
  unfold dirS
  split
  · split
    · exact Go.Proofs.Ytacdocchcfbgcaa.HDir.length_ins _ _ _
    · split
      · exact Nat.le_succ_of_le (List.length_filter_le _ _)
      · omega
  · omega
theorem dirFold_le : ∀ (l : List S50) (D : DL), (l.foldl dirS D).length ≤ D.length + l.length
  | [], D => by simp
  | e :: r, D => by
    have := dirFold_le r (dirS D e)
    have := dirS_le D e
    rw [List.foldl_cons, List.length_cons]
    omega
theorem dirL_le (l : List S50) (ep : Int) : (dirL l ep []).length ≤ l.length := by
  have := dirFold_le (l.filter fun e => decide (e.f1 ≤ ep)) []
  have := List.length_filter_le (fun e : S50 => decide (e.f1 ≤ ep)) l
  unfold dirL
  simp at this ⊢
  simp at *
  omega
theorem rdB {xs : List ByteArray} {i : Nat} (h : i < xs.length) : rdOf ByteArray.empty xs (i : Int) = xs[i] := by unfold rdOf; simp [h]

/-! ### lists alike -/
theorem texts_l0 (a : List ByteArray) (ha : a.length ≤ 9223372036854775807) : ∀ (d i : Nat), i + d = a.length → Ev (fun k => dolmenref5_Texts.l0 k a a (i : Int)) true := by
  intro d
  induction d with
  | zero =>
    intro i hi
    refine ev_succ ?_
    simp only [dolmenref5_Texts.l0]
    exact ev_neg (by omega) (ev_some rfl)
  | succ d ih =>
    intro i hi
    refine ev_succ ?_
    simp only [dolmenref5_Texts.l0]
    rw [wrap_succ (show i < a.length by omega) ha]
    exact ev_pos (by omega) (ev_pos (by omega) (ev_pos (by omega) (ev_pos trivial (ih (i + 1) (by omega)))))
theorem texts_self (a : List ByteArray) (ha : a.length ≤ 9223372036854775807) : Ev (fun k => dolmenref5_Texts.f k a a) true := by
  unfold dolmenref5_Texts.f
  exact ev_pos rfl (texts_l0 a ha a.length 0 (by omega))
theorem ints_l0 (a : List Int) (ha : a.length ≤ 9223372036854775807) : ∀ (d i : Nat), i + d = a.length → Ev (fun k => dolmenref5_Ints.l0 k a a (i : Int)) true := by
  intro d
  induction d with
  | zero =>
    intro i hi
    refine ev_succ ?_
    simp only [dolmenref5_Ints.l0]
    exact ev_neg (by omega) (ev_some rfl)
  | succ d ih =>
    intro i hi
    refine ev_succ ?_
    simp only [dolmenref5_Ints.l0]
    rw [wrap_succ (show i < a.length by omega) ha]
    exact ev_pos (by omega) (ev_pos (by omega) (ev_pos (by omega) (ev_pos trivial (ih (i + 1) (by omega)))))
theorem ints_self (a : List Int) (ha : a.length ≤ 9223372036854775807) : Ev (fun k => dolmenref5_Ints.f k a a) true := by
  unfold dolmenref5_Ints.f
  exact ev_pos rfl (ints_l0 a ha a.length 0 (by omega))
end Go.Proofs.Ytacdocchcfbgcaa.PC
