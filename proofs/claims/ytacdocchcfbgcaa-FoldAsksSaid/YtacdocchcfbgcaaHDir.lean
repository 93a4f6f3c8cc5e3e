/-
  A directory as a list of names and numbers, in order; a map that reads as it; from the library's word on sorted keys to this list.
-/
import Derived.Maps.OwnSet
import Derived.Sort.KeysCollected
import Derived.Maps.AppendAt
import Derived.Test.YtacdocchcfbgcaaWWords
set_option linter.unusedVariables false
namespace Go.Proofs.Ytacdocchcfbgcaa.HDir
open Go.RowKit Go.Maps Go.Proofs.YtacdocchcfbgcaaW.PrintWords

abbrev kb (s : ByteArray) : List UInt8 := s.data.toList
theorem kb_inj {s t : ByteArray} (h : kb s = kb t) : s = t := by
  cases s; cases t
  congr 1
  exact Array.toList_inj.1 h
abbrev DL := List (ByteArray × Int)
def ins (s : ByteArray) (v : Int) : DL → DL
  | [] => [(s, v)]
  | p :: r => if p.1 = s then (s, v) :: r else if leB (kb s) (kb p.1) = true then (s, v) :: p :: r else p :: ins s v r
def del (s : ByteArray) (L : DL) : DL := L.filter fun p => decide (p.1 ≠ s)
def Sorted (L : DL) : Prop := L.Pairwise fun p q => leB (kb p.1) (kb q.1) = true ∧ p.1 ≠ q.1
def look : DL → List UInt8 → Option Int
  | [], _ => none
  | p :: r, x => if kb p.1 = x then some p.2 else look r x

theorem leB_total (a b : List UInt8) : leB a b = true ∨ leB b a = true := by
  simp only [leB, decide_eq_true_eq]; exact List.le_total a b
theorem leB_trans {a b c : List UInt8} (h1 : leB a b = true) (h2 : leB b c = true) : leB a c = true := by
  simp only [leB, decide_eq_true_eq] at *; exact List.le_trans h1 h2
theorem leB_antisymm {a b : List UInt8} (h1 : leB a b = true) (h2 : leB b a = true) : a = b := by
  simp only [leB, decide_eq_true_eq] at h1 h2; exact List.le_antisymm h1 h2
theorem leB_refl (a : List UInt8) : leB a a = true := by rcases leB_total a a with h | h <;> exact h

theorem look_ins (s : ByteArray) (v : Int) : ∀ (L : DL) (x : List UInt8), look (ins s v L) x = if kb s = x then some v else look L x
  | [], x => rfl
  | p :: r, x => by
    unfold ins
    split
    · rename_i h
      subst h
      show (if kb p.1 = x then some v else look r x) = if kb p.1 = x then some v else (if kb p.1 = x then some p.2 else look r x)
      split <;> rfl
    · split
      · rfl
      · rename_i h1 h2
        show (if kb p.1 = x then some p.2 else look (ins s v r) x) = if kb s = x then some v else (if kb p.1 = x then some p.2 else look r x)
        rw [look_ins s v r x]
        by_cases e : kb p.1 = x
        · rw [if_pos e, if_pos e, if_neg]
          intro e2
          exact h1 (kb_inj (e.trans e2.symm))
        · rw [if_neg e, if_neg e]
theorem look_del (s : ByteArray) : ∀ (L : DL) (x : List UInt8), look (del s L) x = if kb s = x then none else look L x
  | [], x => by
    show none = _
    split <;> rfl
  | p :: r, x => by
    have ih := look_del s r x
    unfold del at ih ⊢
    rw [List.filter_cons]
    by_cases h : p.1 = s
    · rw [if_neg (by rw [decide_eq_true_iff]; exact fun hn => hn h), ih]
      subst h
      show (if kb p.1 = x then none else look r x) = if kb p.1 = x then none else (if kb p.1 = x then some p.2 else look r x)
      split <;> rfl
    · rw [if_pos (decide_eq_true h)]
      show (if kb p.1 = x then some p.2 else _) = if kb s = x then none else (if kb p.1 = x then some p.2 else look r x)
      rw [ih]
      by_cases e : kb p.1 = x
      · rw [if_pos e, if_pos e, if_neg]
        intro e2
        exact h (kb_inj (e.trans e2.symm))
      · rw [if_neg e, if_neg e]
theorem mem_ins {s : ByteArray} {v : Int} {p : ByteArray × Int} : ∀ {L : DL}, p ∈ ins s v L → p = (s, v) ∨ p ∈ L
  | [], h => by
    rcases List.mem_cons.1 h with h | h
    · exact .inl h
    · cases h
  | q :: r, h => by
    unfold ins at h
    split at h
    · rcases List.mem_cons.1 h with h | h
      · exact .inl h
      · exact .inr (List.mem_cons_of_mem _ h)
    · split at h
      · rcases List.mem_cons.1 h with h | h
        · exact .inl h
        · exact .inr h
      · rcases List.mem_cons.1 h with h | h
        · exact .inr (h ▸ List.mem_cons_self)
        · rcases mem_ins h with h | h
          · exact .inl h
          · exact .inr (List.mem_cons_of_mem _ h)
theorem sorted_ins (s : ByteArray) (v : Int) : ∀ {L : DL}, Sorted L → Sorted (ins s v L)
  | [], _ => List.pairwise_singleton _ _
  | p :: r, h => by
    obtain ⟨h1, h2⟩ := List.pairwise_cons.1 h
    unfold ins
    split
    · rename_i e
      subst e
      exact List.pairwise_cons.2 ⟨fun q hq => h1 q hq, h2⟩
    · rename_i e
      split
      · rename_i hl
        refine List.pairwise_cons.2 ⟨fun q hq => ?_, h⟩
        rcases List.mem_cons.1 hq with rfl | hq
        · exact ⟨hl, fun e' => e e'.symm⟩
        · refine ⟨leB_trans hl (h1 q hq).1, fun e' => ?_⟩
          have e'' : s = q.1 := e'
          exact (h1 q hq).2 (kb_inj (leB_antisymm (h1 q hq).1 (by rw [← e'']; exact hl)))
      · rename_i hl
        refine List.pairwise_cons.2 ⟨fun q hq => ?_, sorted_ins s v h2⟩
        rcases mem_ins hq with rfl | hq
        · refine ⟨?_, e⟩
          rcases leB_total (kb p.1) (kb s) with h3 | h3
          · exact h3
          · exact absurd h3 hl
        · exact h1 q hq
theorem sorted_del (s : ByteArray) {L : DL} (h : Sorted L) : Sorted (del s L) := h.filter _
theorem length_ins (s : ByteArray) (v : Int) : ∀ L : DL, (ins s v L).length ≤ L.length + 1
  | [] => by simp [ins]
  | p :: r => by
    have := length_ins s v r
    unfold ins
    split
    · simp
    · split
      · simp
      · simp; omega
theorem look_mem : ∀ {L : DL} {x : List UInt8}, (look L x).isSome = true ↔ ∃ p ∈ L, kb p.1 = x
  | [], x => by simp [look]
  | p :: r, x => by
    unfold look
    by_cases e : kb p.1 = x
    · rw [if_pos e]
      exact ⟨fun _ => ⟨p, List.mem_cons_self, e⟩, fun _ => rfl⟩
    · rw [if_neg e, look_mem]
      constructor
      · rintro ⟨q, hq, hx⟩
        exact ⟨q, List.mem_cons_of_mem _ hq, hx⟩
      · rintro ⟨q, hq, hx⟩
        rcases List.mem_cons.1 hq with rfl | hq
        · exact absurd hx e
        · exact ⟨q, hq, hx⟩
theorem look_at : ∀ {L : DL}, Sorted L → ∀ p ∈ L, look L (kb p.1) = some p.2
  | [], _, p, hp => by cases hp
  | q :: r, h, p, hp => by
    obtain ⟨h1, h2⟩ := List.pairwise_cons.1 h
    unfold look
    rcases List.mem_cons.1 hp with rfl | hp
    · rw [if_pos rfl]
    · rw [if_neg (fun e => (h1 p hp).2 (kb_inj e))]
      exact look_at h2 p hp

/-! ### a map that reads as the list -/
def Agrees (D : DataW Unit) (L : DL) : Prop :=
  IsMap D ∧ Sorted L ∧ (∀ x, Maps.has D (.string x) = (look L x).isSome) ∧ ∀ x v, look L x = some v → ∀ z, D.atKey (.string x) z = .lit (.int .i64 v)
theorem agrees_nil : Agrees (.map []) [] := ⟨⟨[], rfl⟩, List.Pairwise.nil, fun _ => rfl, fun _ _ h => by cases h⟩
theorem str_ne {x y : List UInt8} (h : x ≠ y) : (Lit.string x) ≠ (Lit.string y) := fun e => h (by injection e)
theorem agrees_ins {D : DataW Unit} {L : DL} (h : Agrees D L) (s : ByteArray) (v : Int) : Agrees (D.put (.string (kb s)) (.lit (.int .i64 v))) (ins s v L) := by
  obtain ⟨h1, h2, h3, h4⟩ := h
  have hk : WideAt.IsKeyLit (.string (kb s)) := by trivial
  refine ⟨h1.put _ _, sorted_ins s v h2, fun x => ?_, fun x u hx z => ?_⟩
  · rw [look_ins]
    by_cases e : kb s = x
    · subst e
      rw [if_pos rfl, has_put_same h1 hk]
      rfl
    · rw [if_neg e, has_put_other (str_ne (Ne.symm e)), h3 x]
  · rw [look_ins] at hx
    by_cases e : kb s = x
    · subst e
      rw [if_pos rfl] at hx
      rw [atKey_put_same h1 hk, Option.some.inj hx]
    · rw [if_neg e] at hx
      rw [atKey_put_other (str_ne (Ne.symm e)), h4 x u hx z]
theorem agrees_del {D : DataW Unit} {L : DL} (h : Agrees D L) (s : ByteArray) : Agrees (D.del (.string (kb s))) (del s L) := by
  obtain ⟨h1, h2, h3, h4⟩ := h
  refine ⟨h1.del _, sorted_del s h2, fun x => ?_, fun x u hx z => ?_⟩
  · rw [look_del]
    by_cases e : kb s = x
    · subst e
      rw [if_pos rfl, has_del_same]
      rfl
    · rw [if_neg e, has_del_other (str_ne (Ne.symm e)), h3 x]
  · rw [look_del] at hx
    by_cases e : kb s = x
    · rw [if_pos e] at hx
      cases hx
    · rw [if_neg e] at hx
      rw [atKey_del_other (str_ne (Ne.symm e)), h4 x u hx z]
theorem keys_nodup {L : DL} (h : Sorted L) : (L.map fun p => kb p.1).Nodup := by
  refine List.pairwise_map.2 (h.imp fun {p q} hpq e => hpq.2 (kb_inj e))
theorem agrees_perm {P : Program} {k : TypeId} {R : Value → Option (DataW Unit × List MemPlace)} {w : World} {b n : Nat} {D : DataW Unit} {L : DL} (h : Agrees D L) (hown : w.ownsMap P k R b n D) (K : Keyed P k) (hk : P.underlying k = some .string) :
    (L.map fun p => kb p.1).Perm (strKeys D) := by
  refine Collected.perm (left := fun _ => false) ⟨keys_nodup h.2.1, fun x => ?_⟩ hown K hk (fun _ => rfl)
  rw [h.2.2.1 x, look_mem, List.mem_map]
  exact ⟨fun ⟨p, hp, hx⟩ => ⟨⟨p, hp, hx⟩, rfl⟩, fun ⟨⟨p, hp, hx⟩, _⟩ => ⟨p, hp, hx⟩⟩
theorem sorted_sort {L : DL} (h : Sorted L) : (L.map fun p => kb p.1).mergeSort leB = L.map fun p => kb p.1 := by
  apply List.mergeSort_of_pairwise
  exact List.pairwise_map.2 (h.imp fun {p q} hpq => hpq.1)
theorem names_enc (L : DL) : (L.map fun p => kb p.1).map encStr = (L.map (·.1)).map Value.string := by
  rw [List.map_map, List.map_map]
  apply List.map_congr_left
  intro p _
  show Value.string ⟨(p.1.data.toList).toArray⟩ = Value.string p.1
  simp
/-- What the library hands back, in the print's words. -/
theorem names_row {w : World} {base e : Nat} {v : Value} {L : DL} {ss : List (List UInt8)} (hp : ss.Perm (L.map fun p => kb p.1)) (hs : Sorted L) (h : w.ownsRow base e 1 v ss.length ((ss.mergeSort (fun x y => decide (x ≤ y))).map encStr)) :
    Kd.R Kd.string e w base (fun _ => True) v (L.map (·.1)) := by
  have hl : ss.length = (L.map (·.1)).length := by rw [hp.length_eq]; simp
  have hm : ss.mergeSort (fun x y => decide (x ≤ y)) = L.map fun p => kb p.1 := (mergeSort_of_perm hp).trans (sorted_sort hs)
  rw [hm, names_enc, hl] at h
  exact Kd.R_of_own (enc := Value.string) (h1 := fun _ => rfl) h (fun _ _ => trivial)
end Go.Proofs.Ytacdocchcfbgcaa.HDir
