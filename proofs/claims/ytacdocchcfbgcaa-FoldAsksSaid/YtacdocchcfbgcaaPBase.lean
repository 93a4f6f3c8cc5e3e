/-
  Plain words on the printed functions: what a function with rounds comes to in the end; indexes.
-/
import Derived.Test.YtacdocchcfbgcaaWWords
namespace Go.Proofs.Ytacdocchcfbgcaa.PB
open Go.RowKit Go.Proofs.YtacdocchcfbgcaaW.PrintWords

section
variable {α β : Type} {r : α}
theorem ev_succ {g : Nat → Option α} (h : Ev (fun k => g (k + 1)) r) : Ev g r := by
  obtain ⟨K, h⟩ := h
  refine ⟨K + 1, fun k hk => ?_⟩
  obtain ⟨m, rfl⟩ : ∃ m, k = m + 1 := ⟨k - 1, by omega⟩
  exact h m (by omega)
theorem ev_pos {c : Prop} [Decidable c] {f g : Nat → Option α} (hc : c) (h : Ev f r) : Ev (fun k => if c then f k else g k) r := by
  obtain ⟨K, h⟩ := h
  exact ⟨K, fun k hk => by show (if c then f k else g k) = some r; rw [if_pos hc]; exact h k hk⟩
theorem ev_neg {c : Prop} [Decidable c] {f g : Nat → Option α} (hc : ¬ c) (h : Ev g r) : Ev (fun k => if c then f k else g k) r := by
  obtain ⟨K, h⟩ := h
  exact ⟨K, fun k hk => by show (if c then f k else g k) = some r; rw [if_neg hc]; exact h k hk⟩
theorem ev_ite {c : Prop} [Decidable c] {f g : Nat → Option α} (h : c → Ev f r) (h' : ¬ c → Ev g r) : Ev (fun k => if c then f k else g k) r := by
  by_cases hc : c
  · exact ev_pos hc (h hc)
  · exact ev_neg hc (h' hc)
theorem ev_bind {g : Nat → Option β} {f : Nat → β → Option α} {a : β} (h : Ev g a) (k : Ev (fun n => f n a) r) : Ev (fun n => (g n).bind (f n)) r := Ev.bind h k
theorem ev_const {o : Option α} (h : o = some r) : Ev (fun _ => o) r := ⟨0, fun _ _ => h⟩
theorem ev_some {x : α} (h : x = r) : Ev (fun _ => some x) r := ⟨0, fun _ _ => by rw [h]⟩
theorem ev_uniq {g : Nat → Option α} {r' : α} (h : Ev g r) (h' : Ev g r') : r = r' := by
  obtain ⟨K, h⟩ := h
  obtain ⟨K', h'⟩ := h'
  have a := h (K + K') (by omega)
  have b := h' (K + K') (by omega)
  rw [a] at b
  exact Option.some.inj b
theorem ev_eq {g : Nat → Option α} {r' : α} (h : Ev g r) (e : r = r') : Ev g r' := by subst e; exact h
end

theorem wrap_in {x : Int} (h0 : -9223372036854775808 ≤ x) (h1 : x ≤ 9223372036854775807) : wrap64 x = x := by unfold wrap64; omega
theorem wrap_succ {i : Nat} {n : Nat} (h : i < n) (hn : n ≤ 9223372036854775807) : wrap64 ((i : Int) + 1) = ((i + 1 : Nat) : Int) := by rw [wrap_in (by omega) (by omega)]; rfl
theorem rd_nat {xs : List Int} {i : Nat} (h : i < xs.length) : rd xs (i : Int) = xs[i] := by unfold rd; simp [h]
theorem wf_i64 {x : Int} (h : (Lit.int .i64 x).wf = true) : -9223372036854775808 ≤ x ∧ x ≤ 9223372036854775807 := by
  have h1 : (decide (IntKind.i64.min ≤ x) && decide (x ≤ IntKind.i64.max)) = true := h
  rw [Bool.and_eq_true, decide_eq_true_iff, decide_eq_true_iff] at h1
  exact h1
theorem wf_u8 {x : Int} (h : (Lit.int .u8 x).wf = true) : 0 ≤ x ∧ x ≤ 255 := by
  have h1 : (decide (IntKind.u8.min ≤ x) && decide (x ≤ IntKind.u8.max)) = true := h
  rw [Bool.and_eq_true, decide_eq_true_iff, decide_eq_true_iff] at h1
  exact h1
end Go.Proofs.Ytacdocchcfbgcaa.PB
