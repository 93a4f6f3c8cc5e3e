/-
  Errors made of numbers, Faults, pairs and plain ones, as they lie in memory; errors.As at the three targets finds the first of its kind within.
-/
import Derived.Test.YtjmmagodjpmihaaDoorKFacts
import Derived.Below
import Derived.Deep.LoopGhost
import Derived.Laws.Rows
set_option linter.unusedVariables false
set_option linter.unusedSimpArgs false
namespace Go.Proofs.YtjmmagodjpmihaaDoor.KA
open Go.RowKit Go.Extern.Stop Go.Stop Go.Extern Go.Extern.Rtype Go.Proofs.YtjmmagodjpmihaaDoor.KF

structure Asi (p : Prop) : Prop where mk :: (out : p)
inductive Er where
  | num (n : Int)
  | fault (op path : ByteArray) (e : Er)
  | pair (a c : Er)
  | plain (s : ByteArray)
def Er.sz : Er → Nat
  | .num _ => 1
  | .fault _ _ e => e.sz + 1
  | .pair a c => a.sz + c.sz + 1
  | .plain _ => 1
theorem Er.sz_pos (e : Er) : 0 < e.sz := by cases e <;> simp [Er.sz]
/-- The value v is the error e. -/
def EV (w : World) : Er → Value → Prop
  | .num n, v => v = .iface 28 (.int .i64 n)
  | .fault op path e, v => ∃ (b : Nat) (ve : Value), v = .iface 23 (.pointer (some ⟨b, 0, none⟩)) ∧ w.heap[b]? = some (.cells #[.string op, .string path, ve] 31 (0, 0)) ∧ EV w e ve
  | .pair a c, v => ∃ (b g : Nat) (va vc : Value), v = .iface 90 (.pointer (some ⟨b, 0, none⟩)) ∧ w.heap[b]? = some (.cells #[.slice (some ⟨g, 0, none⟩) 2 2] 92 (0, 0)) ∧ w.heap[g]? = some (.cells #[va, vc] 26 (0, 0)) ∧ EV w a va ∧ EV w c vc
  | .plain s, v => ∃ b : Nat, v = .iface 44 (.pointer (some ⟨b, 0, none⟩)) ∧ w.heap[b]? = some (.cells #[.string s] 46 (0, 0))
theorem lt_of {w : World} {b : Nat} {o : Obj} (h : w.heap[b]? = some o) : b < w.heap.size := (Array.getElem?_eq_some_iff.1 h).1
theorem EV_keep {w w' : World} {B : Nat} (hB : B = w.heap.size) (hb : Below B w w') : ∀ {e : Er} {v : Value}, EV w e v → EV w' e v
  | .num n, v, h => h
  | .fault op path e, v, h => by
    obtain ⟨b, ve, h1, h2, h3⟩ := h
    exact ⟨b, ve, h1, (hb.block b (by rw [hB]; exact lt_of h2)).trans h2, EV_keep hB hb h3⟩
  | .pair a c, v, h => by
    obtain ⟨b, g, va, vc, h1, h2, h3, h4, h5⟩ := h
    exact ⟨b, g, va, vc, h1, (hb.block b (by rw [hB]; exact lt_of h2)).trans h2, (hb.block g (by rw [hB]; exact lt_of h3)).trans h3, EV_keep hB hb h4, EV_keep hB hb h5⟩
  | .plain s, v, h => by
    obtain ⟨b, h1, h2⟩ := h
    exact ⟨b, h1, (hb.block b (by rw [hB]; exact lt_of h2)).trans h2⟩
theorem EV_below {w w' : World} {e : Er} {v : Value} (h : EV w e v) (hb : Below w.heap.size w w') : EV w' e v := EV_keep rfl hb h
theorem EV_iface {w : World} {e : Er} {v : Value} (h : EV w e v) : ∃ t x, v = .iface t x := by
  cases e with
  | num n => exact ⟨_, _, h⟩
  | fault op path e => obtain ⟨b, ve, h1, _⟩ := h; exact ⟨_, _, h1⟩
  | pair a c => obtain ⟨b, g, va, vc, h1, _⟩ := h; exact ⟨_, _, h1⟩
  | plain s => obtain ⟨b, h1, _⟩ := h; exact ⟨_, _, h1⟩
theorem blk_cell {w : World} {g : Nat} {t : TypeId} {cs : Array Value} (h : w.heap[g]? = some (.cells cs t (0, 0))) (i : Nat) : w.cell? ⟨g, i, none⟩ = cs[i]? := cell_of_row w g i cs t (0, 0) h
theorem blk_frozen {w : World} {g : Nat} {t : TypeId} {cs : Array Value} (h : w.heap[g]? = some (.cells cs t (0, 0))) (i : Nat) : w.frozen? ⟨g, i, none⟩ = false := by simp [World.frozen?, h]
theorem heap_new (w : World) (o : Obj) : (w.alloc o).heap[w.heap.size]? = some o := (MapKept.heap_alloc w o).1
theorem below_step {B : Nat} {w w1 w2 : World} (h : Below B w w1) (hB : B ≤ w1.heap.size) (k : Below w1.heap.size w1 w2) : Below B w w2 := h.trans (k.mono hB)
theorem below_al {B : Nat} {w W : World} (h : Below B w W) (hB : B ≤ W.heap.size) (o : Obj) : Below B w (W.alloc o) := h.alloc hB o
theorem size_le {w W : World} (h : Below w.heap.size w W) : w.heap.size ≤ W.heap.size := h.size

theorem grown_after {w w1 w' : World} {r : Option Nat} (hb : Below w.heap.size w w1) (hg : w1.grownBy w' r) : w.grownBy w' r :=
  ⟨hg.os.trans hb.os, hg.tape.trans hb.tape, hg.output.trans hb.output, Nat.le_trans hb.size hg.size, fun i hi hne => (hg.block i (Nat.lt_of_lt_of_le hi hb.size) hne).trans (hb.block i hi)⟩

theorem grown_set (W : World) (b : Nat) (v : Value) : W.grownBy (W.setCell ⟨b, 0, none⟩ v) (some b) :=
  ⟨rfl, rfl, rfl, by simp [World.setCell], fun i _ hi => Below.heap_setCell W ⟨b, 0, none⟩ v i (fun e => hi (by rw [e]))⟩
theorem blk_set {w : World} {g : Nat} {t : TypeId} {x : Value} (h : w.heap[g]? = some (.cells #[x] t (0, 0))) (u : Value) : (w.setCell ⟨g, 0, none⟩ u).heap[g]? = some (.cells #[u] t (0, 0)) := by
  simp [World.setCell, Array.getElem?_modify, h]
theorem alloc_lt (w : World) (o : Obj) {i : Nat} (h : i < w.heap.size) : (w.alloc o).heap[i]? = w.heap[i]? := (MapKept.heap_alloc w o).2 i h

/-- The first number, the first Fault, the first plain one within. -/
def fN : Er → Option Int
  | .num n => some n
  | .fault _ _ e => fN e
  | .pair a c => (fN a).orElse fun _ => fN c
  | .plain _ => none
def fF : Er → Option (ByteArray × ByteArray × Er)
  | .num _ => none
  | .fault op path e => some (op, path, e)
  | .pair a c => (fF a).orElse fun _ => fF c
  | .plain _ => none
def fP : Er → Option ByteArray
  | .num _ => none
  | .fault _ _ e => fP e
  | .pair a c => (fP a).orElse fun _ => fP c
  | .plain s => some s

theorem unwrapF (b : Nat) (op path : ByteArray) (ve : Value) (w : World) (h : w.heap[b]? = some (.cells #[.string op, .string path, ve] 31 (0, 0))) :
    Calls Tryd.prog 59 #[.pointer (some ⟨b, 0, none⟩)] w fun e w' => e = .returned ve ∧ w = w' := by
  have c2 := blk_cell h 2
  clear h
  go_enter Tryd.func59, Tryd.ntmps59
  go_wp2
  go_ret
  exact ⟨rfl, rfl⟩
theorem unwrapJ (b : Nat) (x : Value) (w : World) (h : w.heap[b]? = some (.cells #[x] 92 (0, 0))) :
    Calls Tryd.prog 66 #[.pointer (some ⟨b, 0, none⟩)] w fun e w' => e = .returned x ∧ w = w' := by
  have c0 := blk_cell h 0
  clear h
  go_enter Tryd.func66, Tryd.ntmps66
  go_wp2
  go_ret
  exact ⟨rfl, rfl⟩
def handle (t : TypeId) : Value := .pointer (some ⟨1, t, none⟩)
def errT : Value := .iface 94 (.agg #[.pointer (some ⟨1, 26, none⟩)])
theorem as_nil (t : Value) (w : World) : Calls Tryd.prog 18 #[.nilIface, t] w fun e w' => e = .returned (.bool false) ∧ w = w' := by
  go_enter Tryd.func18, Tryd.ntmps18
  go_wp2
  go_ret
  exact ⟨rfl, rfl⟩
end Go.Proofs.YtjmmagodjpmihaaDoor.KA
