/-
  clean.own: an entry with what its kind names alone.
-/
import Derived.Test.YtacdocchcfbgcaaProg
import Derived.WalkKit
import Derived.Lib.Hide
namespace Go.Proofs.Ytacdocchcfbgcaa.HOwn
open Go.RowKit

def ownV (k e o : Int) (A : Option Addr) (n c : Nat) (s : ByteArray) (i : Int) : Array Value :=
  if k = 1 then #[.int .i64 k, .int .i64 e, .int .i64 o, .slice A n c, .string ⟨#[]⟩, .int .i64 0]
  else if k = 2 then #[.int .i64 k, .int .i64 e, .int .i64 o, .slice none 0 0, .string ⟨#[]⟩, .int .i64 0]
  else if k = 3 then #[.int .i64 k, .int .i64 e, .int .i64 0, .slice none 0 0, .string s, .int .i64 i]
  else if k = 4 then #[.int .i64 k, .int .i64 e, .int .i64 0, .slice none 0 0, .string s, .int .i64 0]
  else if k = 5 then #[.int .i64 k, .int .i64 e, .int .i64 0, .slice none 0 0, .string ⟨#[]⟩, .int .i64 i]
  else #[.int .i64 k, .int .i64 e, .int .i64 0, .slice none 0 0, .string ⟨#[]⟩, .int .i64 0]

set_option maxHeartbeats 1000000 in
set_option maxRecDepth 100000 in
theorem own_any (k e o : Int) (A : Option Addr) (n c : Nat) (s : ByteArray) (i : Int) (w : World) :
    Calls Try.prog 50 #[.agg #[.int .i64 k, .int .i64 e, .int .i64 o, .slice A n c, .string s, .int .i64 i]] w fun r w' => r = .returned (.agg (ownV k e o A n c s i)) ∧ Below w.heap.size w w' := by
  by_cases h1 : k = 1
  · subst h1
    go_enter Try.func50, Try.ntmps50
    go_wp2
    exact bodyPost_ret (v := .agg #[.int .i64 1, .int .i64 e, .int .i64 o, .slice A n c, .string ⟨#[]⟩, .int .i64 0]) (by simp [results, Try.results50, go_sem]) rfl ⟨rfl, (by repeat (first | exact Below.refl _ _ | refine Below.setCell ?_ (by simp; try omega) _ | refine Below.alloc ?_ (by simp; try omega) _))⟩
  · have b1 : (k == 1) = false := by simpa using h1
    by_cases h2 : k = 2
    · subst h2
      go_enter Try.func50, Try.ntmps50
      go_wp2
      exact bodyPost_ret (v := .agg #[.int .i64 2, .int .i64 e, .int .i64 o, .slice none 0 0, .string ⟨#[]⟩, .int .i64 0]) (by simp [results, Try.results50, go_sem]) rfl ⟨rfl, (by repeat (first | exact Below.refl _ _ | refine Below.setCell ?_ (by simp; try omega) _ | refine Below.alloc ?_ (by simp; try omega) _))⟩
    · have b2 : (k == 2) = false := by simpa using h2
      by_cases h3 : k = 3
      · subst h3
        go_enter Try.func50, Try.ntmps50
        go_wp2
        exact bodyPost_ret (v := .agg #[.int .i64 3, .int .i64 e, .int .i64 0, .slice none 0 0, .string s, .int .i64 i]) (by simp [results, Try.results50, go_sem]) rfl ⟨rfl, (by repeat (first | exact Below.refl _ _ | refine Below.setCell ?_ (by simp; try omega) _ | refine Below.alloc ?_ (by simp; try omega) _))⟩
      · have b3 : (k == 3) = false := by simpa using h3
        by_cases h4 : k = 4
        · subst h4
          go_enter Try.func50, Try.ntmps50
          go_wp2
          exact bodyPost_ret (v := .agg #[.int .i64 4, .int .i64 e, .int .i64 0, .slice none 0 0, .string s, .int .i64 0]) (by simp [results, Try.results50, go_sem]) rfl ⟨rfl, (by repeat (first | exact Below.refl _ _ | refine Below.setCell ?_ (by simp; try omega) _ | refine Below.alloc ?_ (by simp; try omega) _))⟩
        · have b4 : (k == 4) = false := by simpa using h4
          by_cases h5 : k = 5
          · subst h5
            go_enter Try.func50, Try.ntmps50
            go_wp2
            exact bodyPost_ret (v := .agg #[.int .i64 5, .int .i64 e, .int .i64 0, .slice none 0 0, .string ⟨#[]⟩, .int .i64 i]) (by simp [results, Try.results50, go_sem]) rfl ⟨rfl, (by repeat (first | exact Below.refl _ _ | refine Below.setCell ?_ (by simp; try omega) _ | refine Below.alloc ?_ (by simp; try omega) _))⟩
          · have b5 : (k == 5) = false := by simpa using h5
            have hv : Hid (ownV k e o A n c s i = #[.int .i64 k, .int .i64 e, .int .i64 0, .slice none 0 0, .string ⟨#[]⟩, .int .i64 0]) := by show ownV k e o A n c s i = _; unfold ownV; rw [if_neg h1, if_neg h2, if_neg h3, if_neg h4, if_neg h5]
            clear h1 h2 h3 h4 h5
            go_enter Try.func50, Try.ntmps50
            go_wp2
            rw [hv.out]
            exact bodyPost_ret (v := .agg #[.int .i64 k, .int .i64 e, .int .i64 0, .slice none 0 0, .string ⟨#[]⟩, .int .i64 0]) (by simp [results, Try.results50, go_sem]) rfl ⟨rfl, (by repeat (first | exact Below.refl _ _ | refine Below.setCell ?_ (by simp; try omega) _ | refine Below.alloc ?_ (by simp; try omega) _))⟩
end Go.Proofs.Ytacdocchcfbgcaa.HOwn
