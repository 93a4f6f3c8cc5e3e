/-
  life.Holds, and life.Lives with its closure: what they tell.
-/
import Derived.Test.YtacdocchcfbgcaaProg
import Derived.WalkKit
import Derived.Lib.Hide
import Derived.Test.YtacdocchcfbgcaaWWords
namespace Go.Proofs.Ytacdocchcfbgcaa.HLives
open Go.RowKit Go.Proofs.YtacdocchcfbgcaaW.PrintWords

def holdsB (b d e : Int) : Bool := decide (b ≤ e) && (decide (d = 0) || decide (e < d))

set_option maxHeartbeats 400000 in
theorem holds_any (b d e : Int) (w : World) :
    Calls Try.prog 62 #[.agg #[.int .i64 b, .int .i64 d], .int .i64 e] w fun r w' => r = .returned (.bool (holdsB b d e)) ∧ Below w.heap.size w w' := by
  have hfin : ∀ x y z : Bool, decide (b ≤ e) = x → decide (d = 0) = y → decide (e < d) = z → Hid (holdsB b d e = (x && (y || z))) := by
    intro x y z h1 h2 h3
    show holdsB b d e = _
    unfold holdsB
    rw [h1, h2, h3]
  by_cases h1 : b ≤ e
  · by_cases h2 : d = 0
    · have H := hfin true true (decide (e < d)) (by simpa using h1) (by simpa using h2) rfl
      subst h2
      clear hfin
      go_enter Try.func62, Try.ntmps62
      go_wp2
      go_ret
      exact ⟨by rw [H.out]; rfl, (Below.refl _ _).alloc (Nat.le_refl _) _⟩
    · have hb : (d == 0) = false := by simpa using h2
      by_cases h3 : e < d
      · have H := hfin true false true (by simpa using h1) (by simpa using h2) (by simpa using h3)
        clear hfin h2
        go_enter Try.func62, Try.ntmps62
        go_wp2
        go_ret
        exact ⟨by rw [H.out]; rfl, (Below.refl _ _).alloc (Nat.le_refl _) _⟩
      · have H := hfin true false false (by simpa using h1) (by simpa using h2) (by simpa using h3)
        clear hfin h2
        go_enter Try.func62, Try.ntmps62
        go_wp2
        go_ret
        exact ⟨by rw [H.out]; rfl, (Below.refl _ _).alloc (Nat.le_refl _) _⟩
  · have H := hfin false (decide (d = 0)) (decide (e < d)) (by simpa using h1) rfl rfl
    clear hfin
    go_enter Try.func62, Try.ntmps62
    go_wp2
    go_ret
    exact ⟨by rw [H.out]; rfl, (Below.refl _ _).alloc (Nat.le_refl _) _⟩

/-- The closure: what it captured lies in block g. -/
theorem clos_any (b d e : Int) (g : Nat) (w : World) (h0 : w.cell? ⟨g, 0, none⟩ = some (.int .i64 b)) (h1 : w.cell? ⟨g, 1, none⟩ = some (.int .i64 d)) :
    Calls Try.prog 61 #[.int .i64 e, .pointer (some ⟨g, 0, none⟩)] w fun r w' => r = .returned (.bool (holdsB b d e)) ∧ Below w.heap.size w w' := by
  go_enter Try.func61, Try.ntmps61
  go_wp2_with (go_at_call 62; refine (holds_any b d e _).mono ?_; rintro r w' ⟨rfl, hb⟩)
  go_ret
  exact ⟨rfl, hb⟩

def fnV (g : Nat) : Value := .func (.func 61) #[] #[.pointer (some ⟨g, 0, none⟩)]

/-- A number from 0 on, just if one of them holds. -/
def IdxOf (l : List Int) (p : Int → Bool) (v : Value) : Prop := ∃ r : Int, v = .int .i64 r ∧ -1 ≤ r ∧ r ≤ 9223372036854775807 ∧ ((0 ≤ r) ↔ l.any p = true)

theorem any_none {l : List Int} {p : Int → Bool} (h : ∀ j : Nat, j < l.length → p (rd l j) = false) : l.any p = false := by
  rw [Bool.eq_false_iff]
  intro ha
  rw [List.any_eq_true] at ha
  obtain ⟨x, hx, hp⟩ := ha
  obtain ⟨j, hj, rfl⟩ := List.getElem_of_mem hx
  have := h j hj
  unfold rd at this
  simp [hj] at this
  rw [this] at hp
  cases hp
theorem any_some {l : List Int} {p : Int → Bool} {j : Nat} (hj : j < l.length) (h : p (rd l j) = true) : l.any p = true := by
  rw [List.any_eq_true]
  refine ⟨l[j], List.getElem_mem hj, ?_⟩
  unfold rd at h
  simpa [hj] using h

set_option maxHeartbeats 400000 in
theorem index_any (b d : Int) (g : Nat) (A : Option Addr) (c : Nat) (l : List Int) (w : World) (hr : Kd.C (Kd.int .i64) w A l.length l) (hm : l.length ≤ 9223372036854775807)
    (h0 : w.cell? ⟨g, 0, none⟩ = some (.int .i64 b)) (h1 : w.cell? ⟨g, 1, none⟩ = some (.int .i64 d)) (hg : g < w.heap.size) :
    Calls Try.prog 70 #[.slice A l.length c, fnV g] w fun r w' => ∃ v, r = .returned v ∧ Aside0 (IdxOf l (holdsB b d) v) ∧ Below w.heap.size w w' := by
  have HR := Aside0.mk hr
  clear hr
  unfold fnV
  go_enter Try.func70, Try.ntmps70
  go_wp2
  go_loopw [8] (fun i wr => ∃ k : Nat, k ≤ l.length ∧ i = .int .i64 k ∧ Aside0 (∀ j : Nat, j < k → holdsB b d (rd l j) = false) ∧ Aside0 (Below w.heap.size w wr)) (fun i _ => l.length - (intOf i).toNat)
  case atStart => exact ⟨0, Nat.zero_le _, rfl, ⟨fun j hj => by omega⟩, ⟨Below.refl _ _⟩⟩
  case round =>
    obtain ⟨k, hk, rfl, HN, HB⟩ := hrel
    have c0 := (HB.out.cell (p := ⟨g, 0, none⟩) hg).trans h0
    have c1 := (HB.out.cell (p := ⟨g, 1, none⟩) hg).trans h1
    clear h0 h1
    by_cases hlt : k < l.length
    · have hlt' : (k : Int) < (l.length : Int) := by omega
      obtain ⟨ad, e, hx⟩ := Kd.at_int (Kd.C_below HR.out HB.out) (k : Int) (by omega) hlt'
      cases e
      rw [Int.toNat_natCast] at hx
      cases hh : holdsB b d (rd l k) with
      | true =>
        have hu := any_some hlt hh
        have HH := Lib.hid hh
        have HU := Lib.hid hu
        clear hh hu
        go_wp2_with (go_at_call 61; refine (clos_any b d _ g _ c0 c1).mono ?_; rintro r w' ⟨rfl, hb⟩; rw [HH.out]; have HB2 := Aside0.mk hb; clear hb)
        go_ret
        exact ⟨_, rfl, ⟨k, rfl, by omega, by omega, by simp [HU.out]⟩, below_then HB.out HB.out.size HB2.out⟩
      | false =>
        have HN' : Aside0 (∀ j : Nat, j < k + 1 → holdsB b d (rd l j) = false) := ⟨fun j hj => by
          rcases Nat.lt_or_ge j k with h | h
          · exact HN.out j h
          · obtain rfl : j = k := by omega
            exact hh⟩
        have HH := Lib.hid hh
        clear hh
        go_wp2_with (go_at_call 61; refine (clos_any b d _ g _ c0 c1).mono ?_; rintro r w' ⟨rfl, hb⟩; rw [HH.out]; have HB2 := Aside0.mk hb; clear hb)
        go_roundw
        case rel => exact ⟨k + 1, by omega, by go_num, HN', ⟨below_then HB.out HB.out.size HB2.out⟩⟩
        case measure => simp [intOf]; omega
    · have hu := Lib.hid (any_none (p := holdsB b d) (l := l) fun j hj => HN.out j (by omega))
      go_wp2
      go_ret
      exact ⟨_, rfl, ⟨-1, rfl, by omega, by omega, by simp [hu.out]⟩, HB.out⟩

theorem contains_any (b d : Int) (g : Nat) (A : Option Addr) (c : Nat) (l : List Int) (w : World) (hr : Kd.C (Kd.int .i64) w A l.length l) (hm : l.length ≤ 9223372036854775807)
    (h0 : w.cell? ⟨g, 0, none⟩ = some (.int .i64 b)) (h1 : w.cell? ⟨g, 1, none⟩ = some (.int .i64 d)) (hg : g < w.heap.size) :
    Calls Try.prog 60 #[.slice A l.length c, fnV g] w fun r w' => r = .returned (.bool (l.any (holdsB b d))) ∧ Below w.heap.size w w' := by
  have HC := Aside0.mk (index_any b d g A c l w hr hm h0 h1 hg)
  clear hr h0 h1
  unfold fnV at HC ⊢
  go_enter Try.func60, Try.ntmps60
  go_wp2_with (go_at_call 70; refine HC.out.mono ?_; rintro r w' ⟨v, rfl, ⟨⟨z, rfl, z1, z2, hz⟩⟩, hb⟩; have HZ := Lib.hid hz; clear hz; have HB := Aside0.mk hb; clear hb)
  go_ret
  refine ⟨?_, HB.out⟩
  have : decide (0 ≤ z) = l.any (holdsB b d) := by
    rw [Bool.eq_iff_iff, decide_eq_true_iff]
    exact HZ.out
  rw [← this]
  rfl

def livesB (b d : Int) (l : List Int) : Bool := decide (d = 0) || l.any (holdsB b d)

theorem lives_any (b d : Int) (A : Option Addr) (c : Nat) (l : List Int) (w : World) (hr : Kd.C (Kd.int .i64) w A l.length l) (hm : l.length ≤ 9223372036854775807) :
    Calls Try.prog 49 #[.agg #[.int .i64 b, .int .i64 d], .slice A l.length c] w fun r w' => r = .returned (.bool (livesB b d l)) ∧ Below w.heap.size w w' := by
  by_cases h2 : d = 0
  · have H : Hid (livesB b d l = true) := by show livesB b d l = true; simp [livesB, h2]
    subst h2
    clear hr
    go_enter Try.func49, Try.ntmps49
    go_wp2
    go_ret
    exact ⟨by rw [H.out]; rfl, (Below.refl _ _).alloc (Nat.le_refl _) _⟩
  · have H : Hid (livesB b d l = l.any (holdsB b d)) := by show livesB b d l = _; simp [livesB, h2]
    have hb : (d == 0) = false := by simpa using h2
    have HC := Aside0.mk (contains_any b d w.heap.size A c l (w.alloc (.cells #[.int .i64 b, .int .i64 d] 64)) (Kd.C_below hr (below_alloc (Below.refl _ _) _)) hm (by simp) (by simp) (by simp))
    clear hr h2
    unfold fnV at HC
    go_enter Try.func49, Try.ntmps49
    go_wp2_with (go_at_call 60; refine HC.out.mono ?_; rintro r w' ⟨rfl, hb⟩; have HB := Aside0.mk hb; clear hb)
    go_ret
    exact ⟨by rw [H.out]; rfl, below_then (below_alloc (Below.refl _ _) _) (by simp) HB.out⟩
#print axioms lives_any
end Go.Proofs.Ytacdocchcfbgcaa.HLives
