/-
  What the row's condition gives (the listed variable's cell), a world that meets it, and how words and bools in a slice come in.
-/
import Derived.Test.YtjmmagodjpmihaaDoorRows
import Derived.Test.YtjmmagodjpmihaaDoorKEr
import Derived.ChangeSame
import Derived.ChangeVars
import Derived.JoinedOf
import Derived.RowKit
import Derived.RowKitTokens
import Derived.LaidLaws
import Derived.LaidHandle
import Derived.Stop.Joined
import Derived.ProofKit
import Derived.OpenShut
import Derived.ShutString
import Derived.SizedLaws
import Derived.Deep.Slices
set_option linter.unusedVariables false
set_option linter.unusedSimpArgs false
namespace Go.Proofs.YtjmmagodjpmihaaDoor.KA
open Go.ChangeShapes Go.WideShapes Go.RowKit

theorem own : ownKnob Tryd.prog.godebug = none := by kernel_rfl
theorem laidOut : laidOutB Tryd.prog = true := by kernel_rfl
theorem kEt : Tryd.prog.globalNamed "errors.errorType" = some 0 := by kernel_rfl
theorem kRt : (Tryd.prog.cutTypes.find? (·.1 == "internal/reflectlite.rtype")).map (·.2) = some 94 := by kernel_rfl
theorem kOneRow : ((List.range 136).filter fun t => Tryd.prog.rowNamed t [101, 114, 114, 111, 114]) = [26] := by kernel_rfl
theorem kSize : Tryd.prog.types.size = 136 := by kernel_rfl
def laidT : List (String × DataW Unit) := [("errors.errorType", Rows.laid_errors_errorType)]
theorem handle_of_laid {W : World} (h : laidMetH Tryd.prog laidT W) : W.cell? ⟨0, 0, none⟩ = some errT := by
  have h' : laidMet Tryd.prog [] W ∧ handlesMet Tryd.prog laidT W := h
  obtain ⟨name, u, ty, e1, e2, e3, e4, e5⟩ := h'.2 _ (List.mem_singleton.2 rfl)
  have en : name = [101, 114, 114, 111, 114] := (Option.some.inj e1).symm
  subst en
  obtain rfl := Option.some.inj (kRt.symm.trans e2)
  have hm : ty ∈ (List.range 136).filter fun t => Tryd.prog.rowNamed t [101, 114, 114, 111, 114] := List.mem_filter.2 ⟨List.mem_range.2 (by rw [← kSize]; exact e3), e4⟩
  rw [kOneRow] at hm
  obtain rfl := List.mem_singleton.1 hm
  have hh : typeHandle Tryd.prog 26 = .pointer (some ⟨1, 26, none⟩) := by kernel_rfl
  rw [hh] at e5
  simpa [errT] using World.var?_cell kEt e5 0
noncomputable def laidWorld (os : Os) : World :=
  let w0 := World.holding Tryd.prog os ⟨#[], #[], []⟩
  { w0 with heap := w0.heap.modify 0 fun
      | .cells _ t frozen => .cells #[errT] t frozen
      | o => o }
theorem laidWorld_met (os : Os) (args : Array Value) : laidMetH Tryd.prog laidT ((laidWorld os).forCall (fun _ _ => 0) ⟨#[], args, []⟩).memory :=
  laidMetH_of_parts (laidMet_nil _ _) (by kernel_rfl)

/-- A slice that came in, its places one word long each. -/
def ARow {α : Type} (w : World) (enc : α → Value) (A : Option Addr) (l : List α) : Prop := ∀ (i : Nat) (h : i < l.length), ∃ a : Addr, A = some a ∧ w.cell? (a.add i) = some (enc l[i])
theorem arow_below {α : Type} {enc : α → Value} {w w' : World} {A : Option Addr} {l : List α} (h : ARow w enc A l) (hb : Below w.heap.size w w') : ARow w' enc A l := by
  intro i hi
  obtain ⟨a, hg, hcell⟩ := h i hi
  exact ⟨a, hg, (hb.cell (World.block_lt_of_cell? w _ hcell)).trans hcell⟩
theorem arow_of {α : Type} {f : α → Value} {P : Program} {t e : TypeId} (ht : P.underlying t = some (.slice e)) (ce : P.cellsOf e = 1)
    (one : ∀ {H : Type} (enc : TypeId × Value → H) (W : World) (base : Nat) (spare : Nat → Bool) (held : Bool) (fuel : Nat) (v : Value) (x : DataW H × List MemPlace), DataW.trod enc P W base spare held fuel e [v] = some x → ∃ a : α, v = f a)
    {H : Type} {enc : TypeId × Value → H} {W : World} {base : Nat} {spare : Nat → Bool} {held : Bool} {A : Option Addr} {len cap : Nat} {x : DataW H} {ps : List MemPlace} (hx : DataW.Trod enc P W base spare held t (.slice A len cap) x ps) :
    ∃ l : List α, l.length = len ∧ ARow W f A l := by
  obtain ⟨fuel, hf⟩ := hx
  rcases Go.Deep.open_slice1 ht ce hf with ⟨he, _⟩ | ⟨a, len', cap', m, n, V, D, Pl, he, hb, hl, hm, hmm, _, hi⟩
  · simp [Value.cells] at he
    obtain ⟨rfl, rfl, rfl⟩ := he
    exact ⟨[], rfl, fun i hi => by simp at hi⟩
  · simp [Value.cells] at he
    obtain ⟨rfl, rfl, rfl⟩ := he
    have hlm : len ≤ m := by rw [hmm]; split <;> omega
    have hc : ∀ i, i < len → ∃ b : α, W.cell? (a.add i) = some (f b) := fun i h => by
      obtain ⟨h1, h2⟩ := hi i (by omega)
      obtain ⟨b, hb⟩ := one enc W base spare held n _ _ h2
      exact ⟨b, by rw [h1, hb]⟩
    have hex : ∀ k, k ≤ len → ∃ l : List α, l.length = k ∧ ∀ (i : Nat) (h : i < l.length), W.cell? (a.add i) = some (f l[i]) := by
      intro k
      induction k with
      | zero => exact fun _ => ⟨[], rfl, fun i hi => by simp at hi⟩
      | succ k ih =>
        intro hk
        obtain ⟨l, hl, hp⟩ := ih (by omega)
        obtain ⟨b, hb⟩ := hc k (by omega)
        refine ⟨l ++ [b], by simp [hl], fun i hi => ?_⟩
        by_cases h : i < l.length
        · rw [List.getElem_append_left h]; exact hp i h
        · have : i = l.length := by simp at hi; omega
          subst this
          rw [List.getElem_append_right (Nat.le_refl _)]
          subst hl
          simpa using hb
    obtain ⟨l, hl, hp⟩ := hex len (Nat.le_refl _)
    exact ⟨l, hl, fun i hi => ⟨a, rfl, hp i hi⟩⟩
theorem arow_bool {t e : TypeId} (ht : Tryd.prog.underlying t = some (.slice e)) (ce : Tryd.prog.cellsOf e = 1) (hu : Tryd.prog.underlying e = some .bool)
    {H : Type} {enc : TypeId × Value → H} {W : World} {base : Nat} {spare : Nat → Bool} {held : Bool} {A : Option Addr} {len cap : Nat} {x : DataW H} {ps : List MemPlace} (hx : DataW.Trod enc Tryd.prog W base spare held t (.slice A len cap) x ps) :
    ∃ l : List Bool, l.length = len ∧ ARow W Value.bool A l :=
  arow_of ht ce (fun enc W base spare held fuel v x h => by
    obtain ⟨b, hb, _⟩ := DataW.trod_bool hu h
    exact ⟨b, by simpa using hb⟩) hx
theorem arow_string {t e : TypeId} (ht : Tryd.prog.underlying t = some (.slice e)) (ce : Tryd.prog.cellsOf e = 1) (hu : Tryd.prog.underlying e = some .string)
    {H : Type} {enc : TypeId × Value → H} {W : World} {base : Nat} {spare : Nat → Bool} {held : Bool} {A : Option Addr} {len cap : Nat} {x : DataW H} {ps : List MemPlace} (hx : DataW.Trod enc Tryd.prog W base spare held t (.slice A len cap) x ps) :
    ∃ l : List ByteArray, l.length = len ∧ ARow W Value.string A l :=
  arow_of ht ce (fun enc W base spare held fuel v x h => by
    obtain ⟨b, hb, _⟩ := DataW.trod_string hu h
    exact ⟨b, by simpa using hb⟩) hx
end Go.Proofs.YtjmmagodjpmihaaDoor.KA
