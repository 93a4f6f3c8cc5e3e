/-
  FoldAsks, the plain law: what any log makes, of a file or a directory, at any epoch, and behind each entry, is told; and the first entry that may not be.
-/
import Derived.Test.YtacdocchcfbgcaaOFoldAsks
import Derived.Test.YtacdocchcfbgcaaEPLogR
import Derived.Test.YtacdocchcfbgcaaEx6
import Derived.Test.YtacdocchcfbgcaaEx12
set_option linter.unusedVariables false
set_option linter.unusedSimpArgs false
namespace Go.Proofs.Ytacdocchcfbgcaa.Pure
open Go.RowKit Go.Proofs.Ytacdocchcfbgcaa.Q Go.Proofs.Ytacdocchcfbgcaa.PC Go.Proofs.Ytacdocchcfbgcaa.PB Go.Proofs.YtacdocchcfbgcaaW.PrintWords Go.Proofs.YtacdocchcfbgcaaW.PrintLast Go.Proofs.YtacdocchcfbgcaaW.PrintMore

theorem awake_ev : Ev (fun k => (dolmenlaw13_awake.f).bind fun t => some t) true := ev_bind (ev_const rfl) (ev_some rfl)
/-- The sizes behind each entry. -/
def szs (b : List Int) : List S50 → List Int
  | [] => []
  | e :: r => ((nextL b e).length : Int) :: szs (nextL b e) r
theorem szs_length : ∀ (l : List S50) (b : List Int), (szs b l).length = l.length
  | [], b => rfl
  | e :: r, b => by simp [szs, szs_length r]
theorem sizes_ev (l : List S50) (hl : l.length ≤ 1000) (hd : ∀ e ∈ l, e.f3.length ≤ 9223372036854775807) :
    ∀ (d i : Nat) (acc b : List Int), i + d = l.length → acc.length = i → b.length ≤ 2000 → Ev (fun k => fold_Sizes.l0 k acc b l (l.length : Int) (i : Int)) (acc ++ szs b (l.drop i)) := by
  intro d
  induction d with
  | zero =>
    intro i acc b hi ha hb
    refine ev_succ ?_
    simp only [fold_Sizes.l0]
    refine ev_neg (by omega) (ev_some ?_)
    rw [List.drop_eq_nil_of_le (by omega)]
    simp [szs]
  | succ d ih =>
    intro i acc b hi ha hb
    have hlt : i < l.length := by omega
    refine ev_succ ?_
    simp only [fold_Sizes.l0]
    refine ev_pos (by omega) (ev_pos (by omega) (ev_pos (by omega) ?_))
    rw [rdE hlt, wrap_succ hlt (by omega), List.drop_eq_getElem_cons hlt]
    refine ev_bind (next_ev b l[i] (by omega) (hd _ (List.getElem_mem hlt))) (ev_pos (by omega) ?_)
    have := ih (i + 1) (acc ++ [((nextL b l[i]).length : Int)]) (nextL b l[i]) (by omega) (by simp [ha]) (nextL_le b l[i] 2000 (by omega) (by omega) hb)
    rw [List.append_assoc] at this
    exact this
/-- An entry whose epoch is none changes nothing. -/
theorem fileL_most : ∀ (l : List S50) (b : List Int), fileL l 1099511627776 b = l.foldl nextL b
  | [], b => rfl
  | e :: r, b => by
    by_cases h : e.f1 ≤ 1099511627776
    · rw [fileL_cons e r _ b h, fileL_most r, List.foldl_cons]
    · have e1 : fileL (e :: r) 1099511627776 b = fileL r 1099511627776 b := by
        unfold fileL
        rw [List.filter_cons, if_neg (by rw [decide_eq_true_iff]; exact h)]
      have e2 : nextL b e = b := by
        refine nextL_else b e fun ho => h ?_
        have h1 := ho.1
        unfold okS okE within at h1
        simp at h1
        omega
      rw [e1, fileL_most r, List.foldl_cons, e2]
theorem foldl_le : ∀ (l : List S50) (b : List Int), b.length ≤ 2000 → (l.foldl nextL b).length ≤ 2000
  | [], b, h => h
  | e :: r, b, h => foldl_le r _ (nextL_le b e 2000 (by omega) (by omega) h)
theorem rsizes_ev (l : List S32) (hl : l.length ≤ 1000) (hd : ∀ e ∈ l, e.f3.length ≤ 9223372036854775807) :
    ∀ (d i : Nat) (acc : List Int), i + d = l.length → acc.length = i → Ev (fun k => dolmenref9_Sizes.l0 k l acc (l.length : Int) (i : Int)) (acc ++ szs (((l.take i).map toE).foldl nextL []) ((l.drop i).map toE)) := by
  intro d
  induction d with
  | zero =>
    intro i acc hi ha
    refine ev_succ ?_
    simp only [dolmenref9_Sizes.l0]
    refine ev_neg (by omega) (ev_some ?_)
    rw [List.drop_eq_nil_of_le (by omega)]
    simp [szs]
  | succ d ih =>
    intro i acc hi ha
    have hlt : i < l.length := by omega
    refine ev_succ ?_
    simp only [dolmenref9_Sizes.l0]
    rw [wrap_succ hlt (by omega), Int.toNat_natCast, List.drop_eq_getElem_cons hlt]
    have hf := rfile_ev (l.take (i + 1)) 1099511627776 (by rw [List.length_take]; omega) (fun e he => hd e (List.mem_of_mem_take he))
    rw [fileL_most] at hf
    have hs : ((l.take (i + 1)).map toE).foldl nextL [] = nextL (((l.take i).map toE).foldl nextL []) (toE l[i]) := by
      rw [List.take_succ_eq_append_getElem hlt, List.map_append, List.foldl_append]
      rfl
    rw [hs] at hf
    refine ev_pos (by omega) (ev_pos (by omega) (ev_pos (by omega) (ev_bind hf (ev_pos (by omega) ?_))))
    have := ih (i + 1) (acc ++ [((nextL (((l.take i).map toE).foldl nextL []) (toE l[i])).length : Int)]) (by omega) (by simp [ha])
    rw [List.append_assoc, hs] at this
    exact this

theorem FoldAsks : Go.Proofs.Ytacdocchcfbgcaa.Q.FoldAsks.Pure := by
  intro l0 a1 hl0 hw0 hw1
  refine Ev.rounds ?_
  unfold dolmenlaw13_FoldAsks.f
  obtain ⟨b, hb, hs⟩ := fs_small l0 hl0
  refine ev_bind hb ?_
  cases b with
  | false => exact ev_neg (by simp) awake_ev
  | true =>
    have hl := hs rfl
    have hd : ∀ e ∈ l0, e.f3.length ≤ 9223372036854775807 := fun e he => (hw0 e he).2.2.2.1.1
    have hLl : (l0.map toE).length = l0.length := List.length_map _
    have hdE : ∀ e ∈ l0.map toE, e.f3.length ≤ 9223372036854775807 := by
      intro e he
      obtain ⟨x, hx, rfl⟩ := List.mem_map.1 he
      exact hd x hx
    have hdl := dirL_le (l0.map toE) a1
    have h1 : Ev (fun k => fold_Sizes.f k (l0.map toE)) (szs [] (l0.map toE)) := sizes_ev (l0.map toE) (by omega) hdE (l0.map toE).length 0 [] [] (by omega) rfl (by simp)
    have h2 : Ev (fun k => dolmenref9_Sizes.f k l0) (szs [] (l0.map toE)) := rsizes_ev l0 (by omega) hd l0.length 0 [] (by omega) rfl
    have hsl := szs_length (l0.map toE) []
    refine ev_pos rfl (ev_bind (fs_made l0 (by omega)) (ev_bind (dir_ev (l0.map toE) a1 (by omega) hdE) (ev_bind (rdir_ev l0 a1 (by omega) hd) (ev_bind (fold_check (l0.map toE) (by omega) hdE) (ev_bind (check_log l0 hl0 hd) (ev_bind (file_ev (l0.map toE) a1 (by omega) hdE) (ev_bind (rfile_ev l0 a1 (by omega) hd) (ev_pos rfl ?_))))))))
    refine ev_bind (texts_self _ (by rw [nmL_len]; omega)) (ev_pos rfl (ev_bind (ints_self _ (by rw [noL_len]; omega)) (ev_pos rfl (ev_bind h1 (ev_bind h2 (ev_bind (ints_self _ (by omega)) (ev_pos rfl ?_)))))))
    cases hc : chk 0 (l0.map toE) with
    | none => exact ev_pos rfl (ev_bind (ev_const rfl) (ev_pos (by decide) awake_ev))
    | some j => exact ev_pos rfl (ev_bind (ev_const rfl) (ev_pos (show Go.Proofs.Ytacdocchcfbgcaa.HErr.codeOf (some 1) = 1 by decide) awake_ev))
end Go.Proofs.Ytacdocchcfbgcaa.Pure
