/-
  errors.As at **dolmenlaw3.plain: the first of its kind within.
-/
import Derived.Test.YtjmmagodjpmihaaDoorKEr
set_option linter.unusedVariables false
set_option linter.unusedSimpArgs false
namespace Go.Proofs.YtjmmagodjpmihaaDoor.KA
open Go.RowKit Go.Extern.Stop Go.Stop Go.Extern Go.Extern.Rtype Go.Proofs.YtjmmagodjpmihaaDoor.KF

/-! ### errors.as at **dolmenlaw3.plain -/
def HitP (b : Nat) (w0 w' : World) : ByteArray → Prop := fun _ => True
def PostP (o : Option ByteArray) (b : Nat) (w0 w : World) (ev : Ending) (w' : World) : Prop :=
  match o with
  | none => ev = .returned (.bool false) ∧ Below w.heap.size w w'
  | some x => ev = .returned (.bool true) ∧ w.grownBy w' (some b) ∧ HitP b w0 w' x
theorem postP_below {o : Option ByteArray} {b : Nat} {w0 w w1 w' : World} {ev : Ending} (hb : Below w.heap.size w w1) (h : PostP o b w0 w1 ev w') : PostP o b w0 w ev w' := by
  unfold PostP at *
  cases o with
  | none => exact ⟨h.1, below_step hb hb.size h.2⟩
  | some x => exact ⟨h.1, grown_after hb h.2.1, h.2.2⟩
theorem postP_some {o : Option ByteArray} {x} {b : Nat} {w0 w w' : World} {ev : Ending} (e : o = some x) (h : PostP o b w0 w ev w') : ev = .returned (.bool true) ∧ PostP o b w0 w ev w' := by
  refine ⟨?_, h⟩
  rw [e] at h
  exact h.1
theorem postP_none {o : Option ByteArray} {b : Nat} {w0 w w' : World} {ev : Ending} (e : o = none) (h : PostP o b w0 w ev w') : ev = .returned (.bool false) ∧ Below w.heap.size w w' := by
  rw [e] at h
  exact h
theorem postP_ret {o : Option ByteArray} {b : Nat} {w0 w w' : World} {ev : Ending} (h : PostP o b w0 w ev w') : ∃ r, ev = .returned (.bool r) := by
  unfold PostP at h
  cases o with
  | none => exact ⟨false, h.1⟩
  | some x => exact ⟨true, h.1⟩
set_option maxHeartbeats 4000000 in
set_option maxRecDepth 100000 in
theorem asP : ∀ (n : Nat) (e : Er), e.sz ≤ n → ∀ (v : Value) (b : Nat) (a : Addr) (w0 w : World), Below w0.heap.size w0 w → EV w0 e v → w.heap[b]? = some (.cells #[(.pointer none)] 44 (0, 0)) → w.cell? a = some (.pointer (some ⟨b, 0, none⟩)) →
    Calls Tryd.prog 35 #[v, .iface 48 (.pointer (some ⟨b, 0, none⟩)), .agg #[.pointer (some ⟨1, 48, none⟩), .pointer (some a), .int .u64 150], .iface 94 (.agg #[.pointer (some ⟨1, 44, none⟩)])] w (PostP (fP e) b w0 w)
  | 0 => by
    intro e he
    have := e.sz_pos
    omega
  | n + 1 => by
    intro e he v b a w0 w hb0 hE hB hA
    have ih := asP n
    have HB0 := Asi.mk hb0
    have HE := Asi.mk hE
    have HBb := Asi.mk hB
    have HA := Asi.mk hA
    have HAl := Asi.mk (World.block_lt_of_cell? w _ hA)
    have IH := Asi.mk ih
    clear hb0 hE hB hA ih
    have hTO := @run_callFunc_extern Tryd.prog 30 _ ReflectliteType.typeOf Tryd.func30 (by kernel_rfl) (by kernel_rfl) (by kernel_rfl) (by kernel_rfl)
    have hAT := @run_callFunc_extern Tryd.prog 68 _ (ReflectliteType.relation "AssignableTo" ReflectliteType.assignableTo) Tryd.func68 (by kernel_rfl) (by kernel_rfl) (by kernel_rfl) (by kernel_rfl)
    have hVO := @run_callFunc_extern Tryd.prog 32 _ (fun args => ReflectliteValue.unpack (args.getD 0 (.tuple #[]))) Tryd.func32 (by kernel_rfl) (by kernel_rfl) (by kernel_rfl) (by kernel_rfl)
    have hEL := @run_callFunc_extern Tryd.prog 39 _ (ReflectliteValue.method (ReflectliteValue.valueError "reflectlite.Value.Elem" 0) ReflectliteValue.elem) Tryd.func39 (by kernel_rfl) (by kernel_rfl) (by kernel_rfl) (by kernel_rfl)
    have hST := @run_callFunc_extern Tryd.prog 40 _ ReflectliteValue.set Tryd.func40 (by kernel_rfl) (by kernel_rfl) (by kernel_rfl) (by kernel_rfl)
    have mA := methodAssignableTo
    go_enter Tryd.func35, Tryd.ntmps35
    go_wp2
    go_loopg [0] (e.sz) (fun kq v0 wr => ∃ e' : Er, Asi (e'.sz ≤ kq ∧ e'.sz ≤ n + 1) ∧ Asi (EV w0 e' v0) ∧ Asi (fP e' = fP e) ∧ Asi (Below w.heap.size w wr) ∧ Asi (wr.heap[w.heap.size]? = some (.cells #[.pointer (some ⟨1, 48, none⟩), .pointer (some a), .int .u64 150] 77 (0, 0))))
    case atStart => exact ⟨e, ⟨Nat.le_refl _, he⟩, HE, ⟨rfl⟩, ⟨below_al (Below.refl _ _) (Nat.le_refl _) _⟩, ⟨heap_new _ _⟩⟩
    case round =>
      clear HE
      obtain ⟨e', HS, HE, HF, HB, HV⟩ := hrel
      have HBr := Asi.mk ((HB.out.block b (lt_of HBb.out)).trans HBb.out)
      have HAr := Asi.mk ((HB.out.cell HAl.out).trans HA.out)
      have cv0 := blk_cell HV.out 0
      have cv1 := blk_cell HV.out 1
      have cv2 := blk_cell HV.out 2
      cases e' with
      | num m =>
        obtain rfl := (show _ = Value.iface 28 (.int .i64 m) from HE.out)
        have tO := typeOf_num
        have aT := asgP_num
        have nA := noAs_num
        have nU := unwrap_num
        have nUs := unwraps_num
        go_wp2
        go_ret
        rw [← HF.out]
        exact ⟨rfl, HB.out⟩
      | fault op path e1 =>
        obtain ⟨fb, ve, rfl, hfb, hve⟩ := HE.out
        have tO := typeOf_fault
        have aT := asgP_fault
        have nA := noAs_fault
        have nU := unwrap_fault
        have nUs := unwraps_fault
        have mU := methodUnwrapF
        obtain ⟨tt, xx, rfl⟩ := EV_iface hve
        have hfb' := (HB.out.block fb (Nat.lt_of_lt_of_le (lt_of hfb) HB0.out.size)).trans ((HB0.out.block fb (lt_of hfb)).trans hfb)
        have HFB := Asi.mk hfb'
        have HVE := Asi.mk hve
        clear hfb hfb' hve
        go_wp2_with (go_at_call 59; refine (unwrapF fb op path (.iface tt xx) _ HFB.out).mono ?_; rintro e_ w_ ⟨rfl, rfl⟩)
        obtain ⟨k1, rfl⟩ : ∃ k1, gk = k1 + 1 := ⟨gk - 1, by have h_ := HS.out; have h1_ := Er.sz_pos e1; simp only [Er.sz] at h_; omega⟩
        go_roundg k1
        case measure => omega
        case rel => exact ⟨e1, ⟨by have h_ := HS.out; have h1_ := Er.sz_pos e1; simp only [Er.sz] at h_; omega⟩, HVE, ⟨HF.out⟩, HB, HV⟩
      | pair e1 e2 =>
        obtain ⟨jb, jg, va, vc, rfl, hjb, hjg, hva, hvc⟩ := HE.out
        have tO := typeOf_pair
        have aT := asgP_pair
        have nA := noAs_pair
        have nU := unwrap_pair
        have nUs := unwraps_pair
        have mU := methodUnwrapJ
        obtain ⟨t1, x1, rfl⟩ := EV_iface hva
        obtain ⟨t2, x2, rfl⟩ := EV_iface hvc
        have HJB := Asi.mk ((HB.out.block jb (Nat.lt_of_lt_of_le (lt_of hjb) HB0.out.size)).trans ((HB0.out.block jb (lt_of hjb)).trans hjb))
        have HJG := Asi.mk ((HB.out.block jg (Nat.lt_of_lt_of_le (lt_of hjg) HB0.out.size)).trans ((HB0.out.block jg (lt_of hjg)).trans hjg))
        have HVA := Asi.mk hva
        have HVC := Asi.mk hvc
        clear hjb hjg hva hvc
        have g0 := blk_cell HJG.out 0
        have g1 := blk_cell HJG.out 1
        have hs1 : e1.sz ≤ n := by have h_ := HS.out; have h1_ := Er.sz_pos e2; simp only [Er.sz] at h_; omega
        have hs2 : e2.sz ≤ n := by have h_ := HS.out; have h1_ := Er.sz_pos e1; simp only [Er.sz] at h_; omega
        have HS1 := Asi.mk hs1
        have HS2 := Asi.mk hs2
        clear hs1 hs2
        have HB0r := Asi.mk (below_step HB0.out HB0.out.size HB.out)
        cases q1 : fP e1 with
        | some y1 =>
          have hq : fP e = some y1 := by rw [← HF.out]; show (fP e1).orElse _ = _; rw [q1]; rfl
          have HQ := Asi.mk hq
          have Q1 := Asi.mk q1
          clear hq q1
          go_wp2_with (go_at_call 66; refine (unwrapJ jb _ _ HJB.out).mono ?_; rintro e_ w_ ⟨rfl, rfl⟩)
          refine wp_loop_rounds 1 ?_
          rw [rounds_succ]
          go_wp2_with (go_at_call 35; refine (IH.out e1 HS1.out _ b a w0 _ HB0r.out HVA.out HBr.out HAr.out).mono ?_; rintro ev_ w_ hp; obtain ⟨rfl, hp⟩ := postP_some Q1.out hp; have HP := Asi.mk hp; clear hp)
          go_ret
          rw [HQ.out, ← Q1.out]
          exact postP_below HB.out HP.out
        | none =>
          have Q1 := Asi.mk q1
          clear q1
          cases q2 : fP e2 with
          | some y2 =>
            have hq : fP e = some y2 := by rw [← HF.out]; show (fP e1).orElse _ = _; rw [Q1.out]; exact q2
            have HQ := Asi.mk hq
            have Q2 := Asi.mk q2
            clear hq q2
            go_wp2_with (go_at_call 66; refine (unwrapJ jb _ _ HJB.out).mono ?_; rintro e_ w_ ⟨rfl, rfl⟩)
            refine wp_loop_rounds 2 ?_
            rw [rounds_succ]
            go_wp2_with (first | (go_at_call 35; (with_reducible refine (IH.out e1 HS1.out _ b a w0 _ HB0r.out HVA.out HBr.out HAr.out).mono ?_); rintro ev_ w1 hp; obtain ⟨rfl, hb⟩ := postP_none Q1.out hp; have HB1 := Asi.mk (below_step HB.out HB.out.size hb); have HV1 := Asi.mk ((hb.block _ (lt_of HV.out)).trans HV.out); have cw0 := blk_cell HV1.out 0; have cw1 := blk_cell HV1.out 1; have cw2 := blk_cell HV1.out 2; have HJ1 := Asi.mk ((hb.block _ (lt_of HJG.out)).trans HJG.out); have k1_ := blk_cell HJ1.out 1; have HBr1 := Asi.mk ((hb.block _ (lt_of HBr.out)).trans HBr.out); have HAr1 := Asi.mk ((HB1.out.cell HAl.out).trans HA.out); have HB01 := Asi.mk (below_step HB0.out HB0.out.size HB1.out); clear hp hb) | fail)
            rw [rounds_succ]
            go_wp2_with ((go_at_call 35; (with_reducible refine (IH.out e2 HS2.out _ b a w0 _ HB01.out HVC.out HBr1.out HAr1.out).mono ?_); rintro ev_ w_ hp; obtain ⟨rfl, hp⟩ := postP_some Q2.out hp; have HP := Asi.mk hp; clear hp))
            go_ret
            rw [HQ.out, ← Q2.out]
            exact postP_below HB1.out HP.out
          | none =>
            have hq : fP e = none := by rw [← HF.out]; show (fP e1).orElse _ = _; rw [Q1.out]; exact q2
            have HQ := Asi.mk hq
            have Q2 := Asi.mk q2
            clear hq q2
            go_wp2_with (go_at_call 66; refine (unwrapJ jb _ _ HJB.out).mono ?_; rintro e_ w_ ⟨rfl, rfl⟩)
            refine wp_loop_rounds 3 ?_
            rw [rounds_succ]
            go_wp2_with (first | (go_at_call 35; (with_reducible refine (IH.out e1 HS1.out _ b a w0 _ HB0r.out HVA.out HBr.out HAr.out).mono ?_); rintro ev_ w1 hp; obtain ⟨rfl, hb⟩ := postP_none Q1.out hp; have HB1 := Asi.mk (below_step HB.out HB.out.size hb); have HV1 := Asi.mk ((hb.block _ (lt_of HV.out)).trans HV.out); have cw0 := blk_cell HV1.out 0; have cw1 := blk_cell HV1.out 1; have cw2 := blk_cell HV1.out 2; have HJ1 := Asi.mk ((hb.block _ (lt_of HJG.out)).trans HJG.out); have k1_ := blk_cell HJ1.out 1; have HBr1 := Asi.mk ((hb.block _ (lt_of HBr.out)).trans HBr.out); have HAr1 := Asi.mk ((HB1.out.cell HAl.out).trans HA.out); have HB01 := Asi.mk (below_step HB0.out HB0.out.size HB1.out); clear hp hb) | fail)
            rw [rounds_succ]
            go_wp2_with ((go_at_call 35; (with_reducible refine (IH.out e2 HS2.out _ b a w0 _ HB01.out HVC.out HBr1.out HAr1.out).mono ?_); rintro ev_ w_ hp; obtain ⟨rfl, hb⟩ := postP_none Q2.out hp; have HB2 := Asi.mk (below_step HB1.out HB1.out.size hb); clear hp hb))
            rw [rounds_succ]
            go_wp2
            go_ret
            rw [HQ.out]
            exact ⟨rfl, HB2.out⟩
      | plain s =>
        obtain ⟨pb, rfl, hpb⟩ := HE.out
        have tO := typeOf_plain
        have aT := asgP_plain
        have nA := noAs_plain
        have nU := unwrap_plain
        have nUs := unwraps_plain
        have vE := valueOfEP ⟨pb, 0, none⟩
        have el := elemVP a ⟨b, 0, none⟩ wr HAr.out
        have hbl := lt_of HBr.out
        have cb := blk_cell HBr.out 0
        have fb_ := blk_frozen HBr.out 0
        have st := setP ⟨b, 0, none⟩ ⟨wr.heap.size, 0, none⟩ ⟨pb, 0, none⟩ (.pointer none) (wr.alloc (.cells #[.pointer (some ⟨pb, 0, none⟩)] 44)) (by simp) (by rw [World.cell?_alloc_lt _ _ ⟨b, 0, none⟩ hbl]; exact cb) (by rw [World.frozen?_alloc_old _ _ ⟨b, 0, none⟩ (Nat.ne_of_lt hbl)]; exact fb_)
        clear cb fb_ hbl
        go_wp2
        go_ret
        rw [← HF.out]
        refine ⟨rfl, grown_after (below_al HB.out HB.out.size _) (grown_set _ b _), ?_⟩
        exact trivial

/-! ### errors.As at **dolmenlaw3.plain -/
set_option maxHeartbeats 4000000 in
set_option maxRecDepth 100000 in
theorem AsP (e : Er) (v : Value) (b : Nat) (w0 w : World) (hb0 : Below w0.heap.size w0 w) (hE : EV w0 e v) (hB : w.heap[b]? = some (.cells #[(.pointer none)] 44 (0, 0))) (hG : w.cell? ⟨0, 0, none⟩ = some errT) :
    Calls Tryd.prog 18 #[v, .iface 48 (.pointer (some ⟨b, 0, none⟩))] w (PostP (fP e) b w0 w) := by
  obtain ⟨tt, xx, rfl⟩ := EV_iface hE
  have hVO := @run_callFunc_extern Tryd.prog 32 _ (fun args => ReflectliteValue.unpack (args.getD 0 (.tuple #[]))) Tryd.func32 (by kernel_rfl) (by kernel_rfl) (by kernel_rfl) (by kernel_rfl)
  have hTY := @run_callFunc_extern Tryd.prog 33 _ (ReflectliteValue.methodAny (ReflectliteValue.valueError "reflectlite.Value.Type" 0) (fun t _ _ _ => ReflectliteType.toType t)) Tryd.func33 (by kernel_rfl) (by kernel_rfl) (by kernel_rfl) (by kernel_rfl)
  have hIN := @run_callFunc_extern Tryd.prog 34 _ (ReflectliteValue.method (ReflectliteValue.valueError "reflectlite.Value.IsNil" 0) ReflectliteValue.isNil) Tryd.func34 (by kernel_rfl) (by kernel_rfl) (by kernel_rfl) (by kernel_rfl)
  have hKI := @run_callFunc_extern Tryd.prog 55 _ (ReflectliteType.abiMethod fun t => do pure (.int .u8 (← Rtype.kind t))) Tryd.func55 (by kernel_rfl) (by kernel_rfl) (by kernel_rfl) (by kernel_rfl)
  have hEL := @run_callFunc_extern Tryd.prog 70 _ (ReflectliteType.method ReflectliteType.elem) Tryd.func70 (by kernel_rfl) (by kernel_rfl) (by kernel_rfl) (by kernel_rfl)
  have hIM := @run_callFunc_extern Tryd.prog 71 _ (ReflectliteType.relation "Implements" ReflectliteType.implements_) Tryd.func71 (by kernel_rfl) (by kernel_rfl) (by kernel_rfl) (by kernel_rfl)
  have vP := valueOfPP
  have tP := typePP
  have mK := methodKind
  have mE := methodElem
  have mI := methodImplements
  have kP := kindPP
  have kE := kindEP
  have eT := elemTP
  have iE := implP
  have hlt := World.block_lt_of_cell? w _ hG
  have n8 := isNilPP ⟨w.heap.size, 0, none⟩ ⟨b, 0, none⟩ ((w.alloc (.cells #[.pointer (some ⟨b, 0, none⟩)] 48)).alloc (.cells #[.pointer (some ⟨1, 48, none⟩), .pointer (some ⟨w.heap.size, 0, none⟩), .int .u64 150] 77)) (by simp)
  have hg2 : ((w.alloc (.cells #[.pointer (some ⟨b, 0, none⟩)] 48)).alloc (.cells #[.pointer (some ⟨1, 48, none⟩), .pointer (some ⟨w.heap.size, 0, none⟩), .int .u64 150] 77)).cell? ⟨0, 0, none⟩ = some (.iface 94 (.agg #[.pointer (some ⟨1, 26, none⟩)])) := by
    rw [World.cell?_alloc_lt _ _ ⟨0, 0, none⟩ (by simp), World.cell?_alloc_lt _ _ ⟨0, 0, none⟩ hlt]; exact hG
  have HE := Asi.mk hE
  have HB0 := Asi.mk hb0
  have HBb := Asi.mk hB
  clear hE hb0 hB hG hlt
  have HW : Asi (Below w.heap.size w ((w.alloc (.cells #[.pointer (some ⟨b, 0, none⟩)] 48)).alloc (.cells #[.pointer (some ⟨1, 48, none⟩), .pointer (some ⟨w.heap.size, 0, none⟩), .int .u64 150] 77))) := ⟨below_al (below_al (Below.refl _ _) (Nat.le_refl _) _) (by simp) _⟩
  go_enter Tryd.func18, Tryd.ntmps18
  go_wp2_with (go_at_call 35; refine (asP e.sz e (Nat.le_refl _) _ b ⟨w.heap.size, 0, none⟩ w0 _ (below_step HB0.out HB0.out.size HW.out) HE.out ((HW.out.block b (lt_of HBb.out)).trans HBb.out) (by simp)).mono ?_; rintro ev_ w_ hp; have hp' := postP_below HW.out hp; have HP := Asi.mk hp'; clear hp hp'; obtain ⟨r_, rfl⟩ : ∃ r_, ev_ = .returned (.bool r_) := postP_ret HP.out)
  go_ret
  exact HP.out
end Go.Proofs.YtjmmagodjpmihaaDoor.KA
