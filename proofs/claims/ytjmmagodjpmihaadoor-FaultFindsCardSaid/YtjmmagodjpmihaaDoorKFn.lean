/-
  The package fault's functions, at any error, nil too.
-/
import Derived.Test.YtjmmagodjpmihaaDoorKAsE
import Derived.Test.YtjmmagodjpmihaaDoorKAsF
import Derived.Test.YtjmmagodjpmihaaDoorKIs
import Derived.Test.YtjmmagodjpmihaaDoorKJoin
set_option linter.unusedVariables false
set_option linter.unusedSimpArgs false
namespace Go.Proofs.YtjmmagodjpmihaaDoor.KA
open Go.RowKit Go.Extern.Stop Go.Stop Go.Extern Go.Extern.Rtype Go.Proofs.YtjmmagodjpmihaaDoor.KF

/-- An error or none. -/
def OE (w : World) : Option Er → Value → Prop
  | none, v => v = .nilIface
  | some e, v => EV w e v
theorem OE_below {w w' : World} {o : Option Er} {v : Value} (h : OE w o v) (hb : Below w.heap.size w w') : OE w' o v := by
  cases o with
  | none => exact h
  | some e => exact EV_below h hb
def oNew (op path : ByteArray) : Option Er → Option Er
  | none => none
  | some e => some (.fault op path e)
def oBoth : Option Er → Option Er → Option Er
  | none, b => b
  | some a, none => some a
  | some a, some b => some (.pair a b)
set_option maxRecDepth 100000 in
theorem new_any (op path : ByteArray) (o : Option Er) (v : Value) (w : World) (h : OE w o v) :
    Calls Tryd.prog 11 #[.string op, .string path, v] w fun ev w' => ∃ u, ev = .returned u ∧ OE w' (oNew op path o) u ∧ Below w.heap.size w w' := by
  cases o with
  | none =>
    obtain rfl := (show v = .nilIface from h)
    clear h
    go_enter Tryd.func11, Tryd.ntmps11
    go_wp2
    go_ret
    exact ⟨_, rfl, rfl, Below.refl _ _⟩
  | some e =>
    obtain ⟨tt, xx, rfl⟩ := EV_iface (show EV w e v from h)
    have HE := Asi.mk (show EV w e (.iface tt xx) from h)
    clear h
    go_enter Tryd.func11, Tryd.ntmps11
    go_wp2
    go_ret
    exact ⟨_, rfl, ⟨_, _, rfl, heap_new _ _, EV_below HE.out (below_al (Below.refl _ _) (Nat.le_refl _) _)⟩, below_al (Below.refl _ _) (Nat.le_refl _) _⟩
set_option maxRecDepth 100000 in
theorem both_any (oa ob : Option Er) (va vb : Value) (w : World) (ha : OE w oa va) (hb : OE w ob vb) :
    Calls Tryd.prog 15 #[va, vb] w fun ev w' => ∃ u, ev = .returned u ∧ OE w' (oBoth oa ob) u ∧ Below w.heap.size w w' := by
  cases oa with
  | none =>
    obtain rfl := (show va = .nilIface from ha)
    have HB := Asi.mk hb
    clear ha hb
    go_enter Tryd.func15, Tryd.ntmps15
    go_wp2
    go_ret
    exact ⟨_, rfl, HB.out, Below.refl _ _⟩
  | some a =>
    obtain ⟨tt, xx, rfl⟩ := EV_iface (show EV w a va from ha)
    have HA := Asi.mk (show EV w a (.iface tt xx) from ha)
    clear ha
    cases ob with
    | none =>
      obtain rfl := (show vb = .nilIface from hb)
      clear hb
      go_enter Tryd.func15, Tryd.ntmps15
      go_wp2
      go_ret
      exact ⟨_, rfl, HA.out, Below.refl _ _⟩
    | some c =>
      obtain ⟨t2, x2, rfl⟩ := EV_iface (show EV w c vb from hb)
      have HC := Asi.mk (show EV w c (.iface t2 x2) from hb)
      clear hb
      have hj := join2 tt t2 xx x2 w.heap.size (w.alloc (.cells #[.iface tt xx, .iface t2 x2] 26)) (heap_new _ _)
      have HJ := Asi.mk hj
      clear hj
      go_enter Tryd.func15, Tryd.ntmps15
      go_wp2_with (go_at_call 29; refine HJ.out.mono ?_; rintro e_ w_ ⟨rfl, hj1, hj2, hbl⟩; have J1 := Asi.mk hj1; have J2 := Asi.mk hj2; have HBl := Asi.mk (below_step (below_al (Below.refl _ _) (Nat.le_refl _) _) (by simp) hbl); clear hj1 hj2 hbl)
      go_ret
      exact ⟨_, rfl, ⟨_, _, _, _, rfl, (by have h_ := J1.out; simpa using h_), (by have h_ := J2.out; simpa using h_), EV_below HA.out HBl.out, EV_below HC.out HBl.out⟩, HBl.out⟩
def oUnw : Option Er → Option Er
  | some (.fault _ _ e) => some e
  | _ => none
set_option maxRecDepth 100000 in
theorem unwrap_any (o : Option Er) (v : Value) (w : World) (h : OE w o v) :
    Calls Tryd.prog 28 #[v] w fun ev w' => ∃ u, ev = .returned u ∧ OE w (oUnw o) u ∧ w = w' := by
  cases o with
  | none =>
    obtain rfl := (show v = .nilIface from h)
    clear h
    have nU : ∀ (xT : TypeId) (w : World), (Instr.typeAssert .nilIface xT 86 true).run Tryd.prog w = .ok (.tuple #[.nilIface, .bool false]) w := fun xT w => by kernel_rfl
    go_enter Tryd.func28, Tryd.ntmps28
    go_wp2
    go_ret
    exact ⟨_, rfl, rfl, rfl⟩
  | some e =>
    have h' : EV w e v := h
    clear h
    cases e with
    | num n =>
      obtain rfl := (show v = Value.iface 28 (.int .i64 n) from h')
      clear h'
      have nU := unwrap_num
      go_enter Tryd.func28, Tryd.ntmps28
      go_wp2
      go_ret
      exact ⟨_, rfl, rfl, rfl⟩
    | fault op path e1 =>
      obtain ⟨fb, ve, rfl, hfb, hve⟩ := h'
      have nU := unwrap_fault
      have mU := methodUnwrapF
      have HFB := Asi.mk hfb
      have HVE := Asi.mk hve
      clear hfb hve
      go_enter Tryd.func28, Tryd.ntmps28
      go_wp2_with (go_at_call 59; refine (unwrapF fb op path ve _ HFB.out).mono ?_; rintro e_ w_ ⟨rfl, rfl⟩)
      go_ret
      exact ⟨_, rfl, HVE.out, rfl⟩
    | pair a c =>
      obtain ⟨jb, jg, va, vc, rfl, hjb, hjg, hva, hvc⟩ := h'
      have nU := unwrap_pair
      clear hjb hjg hva hvc
      go_enter Tryd.func28, Tryd.ntmps28
      go_wp2
      go_ret
      exact ⟨_, rfl, rfl, rfl⟩
    | plain s =>
      obtain ⟨pb, rfl, hpb⟩ := h'
      have nU := unwrap_plain
      clear hpb
      go_enter Tryd.func28, Tryd.ntmps28
      go_wp2
      go_ret
      exact ⟨_, rfl, rfl, rfl⟩
def codeE (o : Option Er) : Int := ((o.bind fN).getD 0)
set_option maxRecDepth 100000 in
theorem code_any (o : Option Er) (v : Value) (w : World) (h : OE w o v) (hG : w.cell? ⟨0, 0, none⟩ = some errT) :
    Calls Tryd.prog 17 #[v] w fun ev w' => ev = .returned (.int .i64 (codeE o)) ∧ Below w.heap.size w w' := by
  have HW : Asi (Below w.heap.size w (w.alloc (.cells #[.int .i64 0] 28))) := ⟨below_al (Below.refl _ _) (Nat.le_refl _) _⟩
  cases o with
  | none =>
    obtain rfl := (show v = .nilIface from h)
    clear h hG
    go_enter Tryd.func17, Tryd.ntmps17
    go_wp2_with (go_at_call 18; refine (as_nil _ _).mono ?_; rintro e_ w_ ⟨rfl, rfl⟩)
    go_ret
    exact ⟨rfl, HW.out⟩
  | some e =>
    have HE := Asi.mk (show EV w e v from h)
    have hg1 : (w.alloc (.cells #[.int .i64 0] 28)).cell? ⟨0, 0, none⟩ = some errT := by rw [World.cell?_alloc_lt _ _ ⟨0, 0, none⟩ (World.block_lt_of_cell? w _ hG)]; exact hG
    have HG1 := Asi.mk hg1
    clear h hG hg1
    cases q : fN e with
    | none =>
      have Q := Asi.mk q
      have hc : codeE (some e) = 0 := by unfold codeE; rw [Option.bind_some, q]; rfl
      have HC := Asi.mk hc
      clear q hc
      go_enter Tryd.func17, Tryd.ntmps17
      go_wp2_with (go_at_call 18; refine (AsE e v w.heap.size 0 w _ HW.out HE.out (heap_new _ _) HG1.out).mono ?_; rintro e_ w_ hp; obtain ⟨rfl, hb⟩ := postE_none Q.out hp; have HB := Asi.mk (below_step HW.out HW.out.size hb); clear hp hb)
      go_ret
      rw [HC.out]
      exact ⟨rfl, HB.out⟩
    | some m =>
      have Q := Asi.mk q
      have hc : codeE (some e) = m := by unfold codeE; rw [Option.bind_some, q]; rfl
      have HC := Asi.mk hc
      clear q hc
      go_enter Tryd.func17, Tryd.ntmps17
      go_wp2_with (go_at_call 18; refine (AsE e v w.heap.size 0 w _ HW.out HE.out (heap_new _ _) HG1.out).mono ?_; rintro e_ w_ hp; rw [Q.out] at hp; obtain ⟨rfl, hg, hh⟩ := hp; have HH := Asi.mk hh; have cm := blk_cell hh 0; have HB := Asi.mk (HW.out.grown hg (by simp) (fun q_ hq_ => by cases hq_; exact Nat.le_refl _)); clear hg hh)
      go_ret
      rw [HC.out]
      exact ⟨rfl, HB.out⟩
/-- What the first Fault is. -/
def FirstP (w : World) (o : Option (ByteArray × ByteArray × Er)) (u : Value) : Prop :=
  match o with
  | none => u = .pointer none
  | some x => ∃ p : Nat, u = .pointer (some ⟨p, 0, none⟩) ∧ EV w (.fault x.1 x.2.1 x.2.2) (.iface 23 (.pointer (some ⟨p, 0, none⟩)))
set_option maxRecDepth 100000 in
theorem first_any (o : Option Er) (v : Value) (w0 w : World) (hb0 : Below w0.heap.size w0 w) (h : OE w0 o v) (hG : w.cell? ⟨0, 0, none⟩ = some errT) :
    Calls Tryd.prog 27 #[v] w fun ev w' => ∃ u, ev = .returned u ∧ FirstP w0 (o.bind fF) u ∧ Below w.heap.size w w' := by
  have HW : Asi (Below w.heap.size w (w.alloc (.cells #[.pointer none] 23))) := ⟨below_al (Below.refl _ _) (Nat.le_refl _) _⟩
  have HB0 := Asi.mk hb0
  clear hb0
  cases o with
  | none =>
    obtain rfl := (show v = .nilIface from h)
    clear h hG
    go_enter Tryd.func27, Tryd.ntmps27
    go_wp2_with (go_at_call 18; refine (as_nil _ _).mono ?_; rintro e_ w_ ⟨rfl, rfl⟩)
    go_ret
    exact ⟨_, rfl, rfl, HW.out⟩
  | some e =>
    have HE := Asi.mk (show EV w0 e v from h)
    have hg1 : (w.alloc (.cells #[.pointer none] 23)).cell? ⟨0, 0, none⟩ = some errT := by rw [World.cell?_alloc_lt _ _ ⟨0, 0, none⟩ (World.block_lt_of_cell? w _ hG)]; exact hG
    have HG1 := Asi.mk hg1
    clear h hG hg1
    show Calls _ _ _ _ fun ev w' => ∃ u, ev = .returned u ∧ FirstP w0 (fF e) u ∧ Below w.heap.size w w'
    cases q : fF e with
    | none =>
      have Q := Asi.mk q
      clear q
      go_enter Tryd.func27, Tryd.ntmps27
      go_wp2_with (go_at_call 18; refine (AsF e v w.heap.size w0 _ (below_step HB0.out HB0.out.size HW.out) HE.out (heap_new _ _) HG1.out).mono ?_; rintro e_ w_ hp; obtain ⟨rfl, hb⟩ := postF_none Q.out hp; have HB := Asi.mk (below_step HW.out HW.out.size hb); clear hp hb)
      go_ret
      exact ⟨_, rfl, rfl, HB.out⟩
    | some x =>
      have Q := Asi.mk q
      clear q
      go_enter Tryd.func27, Tryd.ntmps27
      go_wp2_with (go_at_call 18; refine (AsF e v w.heap.size w0 _ (below_step HB0.out HB0.out.size HW.out) HE.out (heap_new _ _) HG1.out).mono ?_; rintro e_ w_ hp; rw [Q.out] at hp; obtain ⟨rfl, hg, p, hh, hev⟩ := hp; have HH := Asi.mk hh; have HEV := Asi.mk hev; have cm := blk_cell hh 0; have HB := Asi.mk (HW.out.grown hg (by simp) (fun q_ hq_ => by cases hq_; exact Nat.le_refl _)); clear hg hh hev)
      go_ret
      exact ⟨_, rfl, ⟨p, rfl, HEV.out⟩, HB.out⟩
end Go.Proofs.YtjmmagodjpmihaaDoor.KA
