/-
  From how an argument reads as data to the print's words on memory: for whole numbers, bools, strings, structs and slices of these, at any depth.
-/
import Derived.Test.YtacdocchcfbgcaaWWords
import Derived.ChangeArms
import Derived.DataReads
import Derived.Deep.Slices
import Derived.ProofKit
namespace Go.Proofs.Ytacdocchcfbgcaa.HOpen
open Go.RowKit Go.Proofs.YtacdocchcfbgcaaW.PrintWords

/-- What reads as a value of type t is, in memory, a value of kind d that is well formed. -/
def Opens {α : Type} (P : Program) (t : TypeId) (d : Kd α) (wf : α → Prop) : Prop :=
  d.sz = P.cellsOf t ∧ ∀ {H : Type} (enc : TypeId × Value → H) (W : World) (base : Nat) (spare : Nat → Bool) (held : Bool) (fuel : Nat) (cs : List Value) (x : DataW H × List MemPlace),
    DataW.trod enc P W base spare held fuel t cs = some x → ∃ a : α, d.K W a cs ∧ wf a

section
variable {P : Program} {α β γ : Type}

theorem opens_int {t : TypeId} {q : IntKind} (ht : P.underlying t = some (.int q)) (hc : P.cellsOf t = 1) : Opens P t (Kd.int q) (fun a => (Lit.int q a).wf = true) :=
  ⟨hc.symm, fun enc W base spare held fuel cs x h => by
    obtain ⟨n, rfl, _, hw⟩ := DataW.trod_int ht h
    exact ⟨n, rfl, hw⟩⟩
theorem opens_bool {t : TypeId} (ht : P.underlying t = some .bool) (hc : P.cellsOf t = 1) : Opens P t Kd.bool (fun _ => True) :=
  ⟨hc.symm, fun enc W base spare held fuel cs x h => by
    obtain ⟨b, rfl, _⟩ := DataW.trod_bool ht h
    exact ⟨b, rfl, trivial⟩⟩
theorem opens_string {t : TypeId} (ht : P.underlying t = some .string) (hc : P.cellsOf t = 1) : Opens P t Kd.string (fun s => s.size ≤ maxLen) :=
  ⟨hc.symm, fun enc W base spare held fuel cs x h => by
    obtain ⟨s, rfl, _, hs⟩ := DataW.trod_string ht h
    exact ⟨s, rfl, hs⟩⟩

/-- A choice for each of the first n. -/
theorem choose_list {p : Nat → α → Prop} : ∀ n : Nat, (∀ i, i < n → ∃ a, p i a) → ∃ l : List α, l.length = n ∧ ∀ i a, l[i]? = some a → p i a
  | 0, _ => ⟨[], rfl, fun i a h => by simp at h⟩
  | n + 1, h => by
    obtain ⟨l, hl, hp⟩ := choose_list n fun i hi => h i (by omega)
    obtain ⟨a, ha⟩ := h n (by omega)
    refine ⟨l ++ [a], by simp [hl], fun i b hb => ?_⟩
    rcases Nat.lt_or_ge i n with hi | hi
    · rw [List.getElem?_append_left (by omega)] at hb
      exact hp i b hb
    · rw [List.getElem?_append_right (by omega)] at hb
      have : i = n := by
        have := (List.getElem?_eq_some_iff.1 hb).1
        simp at this
        omega
      subst this
      simp [hl] at hb
      subst hb
      exact ha

theorem opens_slice {t e : TypeId} {d : Kd α} {wf : α → Prop} (ht : P.underlying t = some (.slice e)) (hc : P.cellsOf t = 1) (h : Opens P e d wf) :
    Opens P t (Kd.slice e d) (fun l => l.length ≤ 9223372036854775807 ∧ ∀ a ∈ l, wf a) :=
  ⟨hc.symm, fun enc W base spare held fuel cs x hx => by
    obtain ⟨hsz, hop⟩ := h
    rcases Go.Deep.open_slice ht hx with ⟨rfl, _⟩ | ⟨a, len, cap, m, n, D, Pl, rfl, hb, hl, hm, hmm, _, hi⟩
    · exact ⟨[], ⟨none, 0, rfl, by simp, Kd.C_nil _ _⟩, by simp, by simp⟩
    · obtain ⟨l, hll, hp⟩ := choose_list (p := fun i (b : α) => (∃ cs', W.cells? base (a.add (i * P.cellsOf e)) (P.cellsOf e) = some cs' ∧ d.K W b cs') ∧ wf b) len (fun i hi2 => by
        have hlm : len ≤ m := by rw [hmm]; split <;> omega
        obtain ⟨cs', h1, h2⟩ := hi i (by omega)
        obtain ⟨b, hK, hw⟩ := hop enc W base spare held n cs' _ h2
        exact ⟨b, ⟨cs', h1, hK⟩, hw⟩)
      subst hll
      simp only [maxLen] at hm
      refine ⟨l, ⟨some a, cap, rfl, hl, rfl, by omega, fun _ => ⟨a, rfl, fun j b hj => ?_⟩⟩, by omega, fun b hb2 => ?_⟩
      · obtain ⟨⟨cs', h1, hK⟩, _⟩ := hp j b hj
        obtain ⟨_, hlen, hat⟩ := World.cells?_some h1
        refine ⟨cs', d.K_len hK, hK, fun i u hu => ?_⟩
        have hi3 : i < P.cellsOf e := by rw [← hlen]; exact (List.getElem?_eq_some_iff.1 hu).1
        rw [hsz, ← Go.Deep.add_add, hat i hi3, hu]
      · obtain ⟨j, hj, hjj⟩ := List.getElem_of_mem hb2
        exact (hp j b (by rw [List.getElem?_eq_getElem hj, hjj])).2⟩

/-! ### structs: the fields one by one -/
def OpensL (P : Program) (ts : List TypeId) (d : Kd α) (wf : α → Prop) : Prop :=
  ∀ {H : Type} (enc : TypeId × Value → H) (W : World) (base : Nat) (spare : Nat → Bool) (held : Bool) (n : Nat) (cs : List Value),
    (∀ (i : Nat) (t : TypeId), ts[i]? = some t → ∃ x, DataW.trod enc P W base spare held n t ((cs.drop (((ts.take i).map P.cellsOf).sum)).take (P.cellsOf t)) = some x) →
    cs.length = (ts.map P.cellsOf).sum → ∃ a : α, d.K W a cs ∧ wf a

theorem opensL_one {t : TypeId} {d : Kd α} {wf : α → Prop} (h : Opens P t d wf) : OpensL P [t] d wf :=
  fun enc W base spare held n cs hx hl => by
    obtain ⟨x, hx⟩ := hx 0 t rfl
    simp at hl
    simp [← hl] at hx
    exact h.2 enc W base spare held n cs x hx

theorem opensL_cons {t : TypeId} {ts : List TypeId} {d : Kd α} {d' : Kd β} {wf : α → Prop} {wf' : β → Prop} (h : Opens P t d wf) (h' : OpensL P ts d' wf') :
    OpensL P (t :: ts) (Kd.pair d d') (fun x => wf x.1 ∧ wf' x.2) :=
  fun enc W base spare held n cs hx hl => by
    obtain ⟨x, hx0⟩ := hx 0 t rfl
    simp at hx0
    obtain ⟨a, hK, hw⟩ := h.2 enc W base spare held n _ x hx0
    simp at hl
    obtain ⟨b, hK', hw'⟩ := h' enc W base spare held n (cs.drop (P.cellsOf t)) (fun i t' ht' => by
      obtain ⟨y, hy⟩ := hx (i + 1) t' (by simpa using ht')
      refine ⟨y, ?_⟩
      rw [List.drop_drop]
      simpa using hy) (by simp; omega)
    exact ⟨(a, b), ⟨_, _, (List.take_append_drop (P.cellsOf t) cs).symm, hK, hK'⟩, hw, hw'⟩

/-- The fields lie one behind the other. -/
def inLine (P : Program) (fs : List Field) : Bool := (List.range fs.length).all fun i => match fs[i]? with | some f => f.offset == (((fs.map (·.type)).take i).map P.cellsOf).sum | none => false

theorem opens_struct {t : TypeId} {fs : Array Field} {ts : List TypeId} {d : Kd γ} {wf : γ → Prop} {f : β → γ} (g : γ → β) (ht : P.underlying t = some (.struct fs)) (hts : fs.toList.map (·.type) = ts) (hline : inLine P fs.toList = true)
    (hc : P.cellsOf t = (ts.map P.cellsOf).sum) (hsz : d.sz = P.cellsOf t) (hfg : ∀ c, f (g c) = c) (h : OpensL P ts d wf) : Opens P t (Kd.iso d f) (fun b => wf (f b)) :=
  ⟨hsz, fun enc W base spare held fuel cs x hx => by
    obtain ⟨xs, n, _, _, hlen, hxl, hf⟩ := DataW.trod_struct ht hx
    obtain ⟨c, hK, hw⟩ := h enc W base spare held n cs (fun i t' ht' => by
      subst hts
      rw [List.getElem?_map] at ht'
      obtain ⟨fd, hfd, hft⟩ := Option.map_eq_some_iff.1 ht'
      have hi : i < fs.toList.length := (List.getElem?_eq_some_iff.1 hfd).1
      have hoff : fd.offset = (((fs.toList.map (·.type)).take i).map P.cellsOf).sum := by
        have := List.all_eq_true.1 hline i (List.mem_range.2 hi)
        rw [hfd] at this
        simpa using this
      have hfd' : fs[i]? = some fd := by rw [← Array.getElem?_toList]; exact hfd
      have h1 := hf i fd hfd'
      rw [hoff] at h1
      subst hft
      have hi' : i < xs.length := by rw [hxl]; simpa using hi
      exact ⟨xs[i], h1.trans (List.getElem?_eq_getElem hi')⟩) (by rw [hlen, hc])
    refine ⟨g c, ?_, ?_⟩
    · show d.K W (f (g c)) cs
      rw [hfg]; exact hK
    · show wf (f (g c))
      rw [hfg]; exact hw⟩

/-- The same, by whatever name the kind has. -/
theorem opens_named {t : TypeId} {d d' : Kd α} {wf : α → Prop} (e : d' = d) (h : Opens P t d wf) : Opens P t d' wf := by subst e; exact h
theorem opens_wf {t : TypeId} {d : Kd α} {wf wf' : α → Prop} (hw : ∀ a, wf a → wf' a) (h : Opens P t d wf) : Opens P t d wf' :=
  ⟨h.1, fun enc W base spare held fuel cs x hx => by
    obtain ⟨a, hK, h1⟩ := h.2 enc W base spare held fuel cs x hx
    exact ⟨a, hK, hw a h1⟩⟩

/-- An argument that is a slice. -/
theorem arg_slice {t e : TypeId} {d : Kd α} {wf : α → Prop} (h : Opens P t (Kd.slice e d) (fun l => l.length ≤ 9223372036854775807 ∧ ∀ a ∈ l, wf a)) {H : Type} {enc : TypeId × Value → H} {W : World} {base : Nat} {spare : Nat → Bool} {held : Bool}
    {A : Option Addr} {len cap : Nat} {x : DataW H} {ps : List MemPlace} (hx : DataW.Trod enc P W base spare held t (.slice A len cap) x ps) :
    ∃ l : List α, l.length = len ∧ len ≤ cap ∧ Kd.C d W A l.length l ∧ l.length ≤ 9223372036854775807 ∧ ∀ a ∈ l, wf a := by
  obtain ⟨fuel, hf⟩ := hx
  obtain ⟨l, ⟨A', c, he, hl, hr⟩, hw⟩ := h.2 enc W base spare held fuel _ _ hf
  simp [Value.cells] at he
  obtain ⟨rfl, rfl, rfl⟩ := he
  exact ⟨l, rfl, hl, hr, hw⟩
/-- An argument that is a struct. -/
theorem arg_struct {t : TypeId} {d : Kd α} {wf : α → Prop} (h : Opens P t d wf) {H : Type} {enc : TypeId × Value → H} {W : World} {base : Nat} {spare : Nat → Bool} {held : Bool}
    {cs : Array Value} {x : DataW H} {ps : List MemPlace} (hx : DataW.Trod enc P W base spare held t (.agg cs) x ps) :
    ∃ a : α, d.K W a cs.toList ∧ wf a := by
  obtain ⟨fuel, hf⟩ := hx
  exact h.2 enc W base spare held fuel _ _ hf
end
end Go.Proofs.Ytacdocchcfbgcaa.HOpen
