/-
  errors.Is at a number: whether the number is within.
-/
import Derived.Test.YtjmmagodjpmihaaDoorKEr
set_option linter.unusedVariables false
set_option linter.unusedSimpArgs false
namespace Go.Proofs.YtjmmagodjpmihaaDoor.KA
open Go.RowKit Go.Extern.Stop Go.Stop Go.Extern Go.Extern.Rtype Go.Proofs.YtjmmagodjpmihaaDoor.KF

def isN (c : Int) : Er → Bool
  | .num n => n == c
  | .fault _ _ e => isN c e
  | .pair a b => isN c a || isN c b
  | .plain _ => false
section
variable {P : Program} (w : World)
theorem run_equalIn_iface_int (d : Nat) {ti tn : TypeId} {ms : Array (String × TypeId)} {i : TypeInfo} {k : IntKind} (a b : Int)
    (hi : P.underlying ti = some (.interface ms)) (hn : P.underlying tn = some (.int k)) (hinfo : P.info? tn = some i) (hcomp : i.comparable = true) :
    (Op.equalIn (d + 2) ti (.iface tn (.int k a)) (.iface tn (.int k b))).run P w = .ok (a == b) w := by
  simp [Op.equalIn, run_underlying hi, run_underlying hn, typeInfo, hinfo, hcomp]
theorem run_eql_iface_int {ti tn : TypeId} {ms : Array (String × TypeId)} {i : TypeInfo} {k : IntKind} (a b : Int)
    (hi : P.underlying ti = some (.interface ms)) (hn : P.underlying tn = some (.int k)) (hinfo : P.info? tn = some i) (hcomp : i.comparable = true) :
    (binOp .eql ti (.iface tn (.int k a)) (.iface tn (.int k b))).run P w = .ok (.bool (a == b)) w := by
  simp only [binOp]
  simp [Op.equal, Op.maxDepth, run_equalIn_iface_int w 9998 a b hi hn hinfo hcomp]
end
theorem eq_types (t : TypeId) (x : Value) (c : Int) (h : t ≠ 28) (w : World) : (binOp .eql 26 (.iface t x) (.iface 28 (.int .i64 c))).run Tryd.prog w = .ok (.bool false) w :=
  run_eql_iface_types t 28 x (.int .i64 c) Tryd.underlying26 h w
theorem eq_nums (m c : Int) (w : World) : (binOp .eql 26 (.iface 28 (.int .i64 m)) (.iface 28 (.int .i64 c))).run Tryd.prog w = .ok (.bool (m == c)) w := by
  obtain ⟨i, hi, hcmp⟩ := Option.map_eq_some_iff.1 isComp
  exact run_eql_iface_int (P := Tryd.prog) w m c Tryd.underlying26 Tryd.underlying28 hi hcmp

set_option maxHeartbeats 4000000 in
set_option maxRecDepth 100000 in
theorem is_any (c : Int) : ∀ (n : Nat) (e : Er), e.sz ≤ n → ∀ (v : Value) (w : World), EV w e v →
    Calls Tryd.prog 31 #[v, .iface 28 (.int .i64 c), .bool true] w fun ev w' => ev = .returned (.bool (isN c e)) ∧ w = w'
  | 0 => by
    intro e he
    have := e.sz_pos
    omega
  | n + 1 => by
    intro e he v w hE
    have HE := Asi.mk hE
    have IH := Asi.mk (is_any c n)
    clear hE
    go_enter Tryd.func31, Tryd.ntmps31
    go_wp2
    go_loopg [0] (e.sz) (fun kq v0 wr => ∃ e' : Er, Asi (e'.sz ≤ kq ∧ e'.sz ≤ n + 1) ∧ Asi (EV w e' v0) ∧ Asi (isN c e' = isN c e) ∧ w = wr)
    case atStart => exact ⟨e, ⟨Nat.le_refl _, he⟩, HE, ⟨rfl⟩, rfl⟩
    case round =>
      clear HE
      obtain ⟨e', HS, HE, HF, rfl⟩ := hrel
      cases e' with
      | num m =>
        obtain rfl := (show _ = Value.iface 28 (.int .i64 m) from HE.out)
        have nI := noIs_num
        have nU := unwrap_num
        have nUs := unwraps_num
        cases hm : (m == c) with
        | true =>
          have hq : isN c e = true := by rw [← HF.out]; exact hm
          have HQ := Asi.mk hq
          have eqf := eq_nums m c w
          rw [hm] at eqf
          clear hq hm
          go_wp2
          go_ret
          rw [HQ.out]
          exact ⟨rfl, rfl⟩
        | false =>
          have hq : isN c e = false := by rw [← HF.out]; exact hm
          have HQ := Asi.mk hq
          have eqf := eq_nums m c w
          rw [hm] at eqf
          clear hq hm
          go_wp2
          go_ret
          rw [HQ.out]
          exact ⟨rfl, rfl⟩
      | fault op path e1 =>
        obtain ⟨fb, ve, rfl, hfb, hve⟩ := HE.out
        have nI := noIs_fault
        have nU := unwrap_fault
        have nUs := unwraps_fault
        have eqf := eq_types 23 (.pointer (some ⟨fb, 0, none⟩)) c (by decide) w
        have mU := methodUnwrapF
        obtain ⟨tt, xx, rfl⟩ := EV_iface hve
        have HFB := Asi.mk hfb
        have HVE := Asi.mk hve
        clear hfb hve
        go_wp2_with (go_at_call 59; refine (unwrapF fb op path (.iface tt xx) _ HFB.out).mono ?_; rintro e_ w_ ⟨rfl, rfl⟩)
        obtain ⟨k1, rfl⟩ : ∃ k1, gk = k1 + 1 := ⟨gk - 1, by have h_ := HS.out; have h1_ := Er.sz_pos e1; simp only [Er.sz] at h_; omega⟩
        go_roundg k1
        case measure => omega
        case rel => exact ⟨e1, ⟨by have h_ := HS.out; have h1_ := Er.sz_pos e1; simp only [Er.sz] at h_; omega⟩, HVE, ⟨HF.out⟩, rfl⟩
      | pair e1 e2 =>
        obtain ⟨jb, jg, va, vc, rfl, hjb, hjg, hva, hvc⟩ := HE.out
        have nI := noIs_pair
        have nU := unwrap_pair
        have nUs := unwraps_pair
        have eqf := eq_types 90 (.pointer (some ⟨jb, 0, none⟩)) c (by decide) w
        have mU := methodUnwrapJ
        obtain ⟨t1, x1, rfl⟩ := EV_iface hva
        obtain ⟨t2, x2, rfl⟩ := EV_iface hvc
        have HJB := Asi.mk hjb
        have g0 := blk_cell hjg 0
        have g1 := blk_cell hjg 1
        have HVA := Asi.mk hva
        have HVC := Asi.mk hvc
        have HS1 : Asi (e1.sz ≤ n) := ⟨by have h_ := HS.out; have h1_ := Er.sz_pos e2; simp only [Er.sz] at h_; omega⟩
        have HS2 : Asi (e2.sz ≤ n) := ⟨by have h_ := HS.out; have h1_ := Er.sz_pos e1; simp only [Er.sz] at h_; omega⟩
        clear hjb hjg hva hvc
        cases q1 : isN c e1 with
        | true =>
          have hq : isN c e = true := by rw [← HF.out]; show (isN c e1 || isN c e2) = true; rw [q1]; rfl
          have HQ := Asi.mk hq
          have Q1 := Asi.mk q1
          clear hq q1
          go_wp2_with (go_at_call 66; refine (unwrapJ jb _ _ HJB.out).mono ?_; rintro e_ w_ ⟨rfl, rfl⟩)
          refine wp_loop_rounds 1 ?_
          rw [rounds_succ]
          go_wp2_with (go_at_call 31; refine (IH.out e1 HS1.out _ _ HVA.out).mono ?_; rintro ev_ w_ ⟨rfl, rfl⟩; rw [Q1.out])
          go_ret
          rw [HQ.out]
          exact ⟨rfl, rfl⟩
        | false =>
          have Q1 := Asi.mk q1
          clear q1
          cases q2 : isN c e2 with
          | true =>
            have hq : isN c e = true := by rw [← HF.out]; show (isN c e1 || isN c e2) = true; rw [Q1.out, q2]; rfl
            have HQ := Asi.mk hq
            have Q2 := Asi.mk q2
            clear hq q2
            go_wp2_with (go_at_call 66; refine (unwrapJ jb _ _ HJB.out).mono ?_; rintro e_ w_ ⟨rfl, rfl⟩)
            refine wp_loop_rounds 2 ?_
            rw [rounds_succ]
            go_wp2_with (go_at_call 31; (with_reducible refine (IH.out e1 HS1.out _ _ HVA.out).mono ?_); rintro ev_ w_ ⟨rfl, rfl⟩; rw [Q1.out])
            rw [rounds_succ]
            go_wp2_with (go_at_call 31; (with_reducible refine (IH.out e2 HS2.out _ _ HVC.out).mono ?_); rintro ev_ w_ ⟨rfl, rfl⟩; rw [Q2.out])
            go_ret
            rw [HQ.out]
            exact ⟨rfl, rfl⟩
          | false =>
            have hq : isN c e = false := by rw [← HF.out]; show (isN c e1 || isN c e2) = false; rw [Q1.out, q2]; rfl
            have HQ := Asi.mk hq
            have Q2 := Asi.mk q2
            clear hq q2
            go_wp2_with (go_at_call 66; refine (unwrapJ jb _ _ HJB.out).mono ?_; rintro e_ w_ ⟨rfl, rfl⟩)
            refine wp_loop_rounds 3 ?_
            rw [rounds_succ]
            go_wp2_with (go_at_call 31; (with_reducible refine (IH.out e1 HS1.out _ _ HVA.out).mono ?_); rintro ev_ w_ ⟨rfl, rfl⟩; rw [Q1.out])
            rw [rounds_succ]
            go_wp2_with (go_at_call 31; (with_reducible refine (IH.out e2 HS2.out _ _ HVC.out).mono ?_); rintro ev_ w_ ⟨rfl, rfl⟩; rw [Q2.out])
            rw [rounds_succ]
            go_wp2
            go_ret
            rw [HQ.out]
            exact ⟨rfl, rfl⟩
      | plain s =>
        obtain ⟨pb, rfl, hpb⟩ := HE.out
        have nI := noIs_plain
        have nU := unwrap_plain
        have nUs := unwraps_plain
        have eqf := eq_types 44 (.pointer (some ⟨pb, 0, none⟩)) c (by decide) w
        have hq : isN c e = false := by rw [← HF.out]; rfl
        have HQ := Asi.mk hq
        clear hq hpb
        go_wp2
        go_ret
        rw [HQ.out]
        exact ⟨rfl, rfl⟩

set_option maxHeartbeats 4000000 in
set_option maxRecDepth 100000 in
theorem Is_any (c : Int) (e : Er) (v : Value) (w : World) (hE : EV w e v) :
    Calls Tryd.prog 16 #[v, .iface 28 (.int .i64 c)] w fun ev w' => ev = .returned (.bool (isN c e)) ∧ w = w' := by
  obtain ⟨tt, xx, rfl⟩ := EV_iface hE
  have HE := Asi.mk hE
  clear hE
  have hTO := @run_callFunc_extern Tryd.prog 30 _ ReflectliteType.typeOf Tryd.func30 (by kernel_rfl) (by kernel_rfl) (by kernel_rfl) (by kernel_rfl)
  have hCO := @run_callFunc_extern Tryd.prog 69 _ (Extern.ReflectliteType.method fun t => do noPackHeld "Comparable" t; pure (.bool (← typeInfo t).comparable)) Tryd.func69 (by kernel_rfl) (by kernel_rfl) (by kernel_rfl) (by kernel_rfl)
  have tT := typeOf_num
  have cT := isComparable
  have mR := methodComparable
  go_enter Tryd.func16, Tryd.ntmps16
  go_wp2_with (go_at_call 31; refine (is_any c e.sz e (Nat.le_refl _) _ _ HE.out).mono ?_; rintro ev_ w_ ⟨rfl, rfl⟩)
  go_ret
  exact ⟨rfl, rfl⟩
set_option maxRecDepth 100000 in
theorem Is_nil (c : Int) (w : World) : Calls Tryd.prog 16 #[.nilIface, .iface 28 (.int .i64 c)] w fun ev w' => ev = .returned (.bool false) ∧ w = w' := by
  have he : ∀ w : World, (binOp .eql 26 .nilIface (.iface 28 (.int .i64 c))).run Tryd.prog w = .ok (.bool false) w := fun w => by kernel_rfl
  go_enter Tryd.func16, Tryd.ntmps16
  go_wp2
  go_ret
  exact ⟨rfl, rfl⟩
end Go.Proofs.YtjmmagodjpmihaaDoor.KA
