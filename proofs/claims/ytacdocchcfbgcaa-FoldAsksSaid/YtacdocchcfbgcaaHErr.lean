/-
  errors.Is at errors that are numbers of api.Errno, and dolmenalike.Code over them.
-/
import Derived.Test.YtacdocchcfbgcaaProg
import Derived.WalkKit
import Derived.LaidEql
import Derived.Stop.Asserts
import Derived.RowKitTokens
import Derived.Lib.Hide
namespace Go.Proofs.Ytacdocchcfbgcaa.HErr
open Go.RowKit Go.Extern.Stop Go.Stop Go.Extern Go.Extern.Rtype

section
variable {P : Program} (w : World)

theorem run_equalIn_iface_int (d : Nat) {ti tn : TypeId} {ms : Array (String × TypeId)} {i : TypeInfo} {k : IntKind} (a b : Int)
    (hi : P.underlying ti = some (.interface ms)) (hn : P.underlying tn = some (.int k)) (hinfo : P.info? tn = some i) (hcomp : i.comparable = true) :
    (Op.equalIn (d + 2) ti (.iface tn (.int k a)) (.iface tn (.int k b))).run P w = .ok (a == b) w := by
  simp [Op.equalIn, run_underlying hi, run_underlying hn, typeInfo, hinfo, hcomp]

theorem run_eql_iface_int {ti tn : TypeId} {ms : Array (String × TypeId)} {i : TypeInfo} {k : IntKind} (a b : Int)
    (hi : P.underlying ti = some (.interface ms)) (hn : P.underlying tn = some (.int k)) (hinfo : P.info? tn = some i) (hcomp : i.comparable = true) :
    (binOp .eql ti (.iface tn (.int k a)) (.iface tn (.int k b))).run P w = .ok (.bool (a == b)) w := by
  simp only [binOp]
  simp [Op.equal, Op.maxDepth, run_equalIn_iface_int w 9998 a b hi hn hinfo hcomp]
end

theorem isTypeOf (v : Value) (w : World) : (Extern.ReflectliteType.typeOf #[.iface 90 v]).run Try.prog w = .ok (.iface 113 (.agg #[.pointer (some ⟨0, 90, none⟩)])) w := by kernel_rfl
theorem isComparable (w : World) : ((Extern.ReflectliteType.method fun t => do noPackHeld "Comparable" t; (fun a => Value.bool a.comparable) <$> typeInfo t) #[.agg #[.pointer (some ⟨0, 90, none⟩)]]).run Try.prog w = .ok (.bool true) w := by kernel_rfl
theorem methodComparable (v : Value) (w : World) : (Go.method 281 113 (.agg #[v]) "Comparable").run Try.prog w = .ok (111, .agg #[v]) w := by kernel_rfl
theorem isComp : (Try.prog.info? 90).map (·.comparable) = some true := by kernel_rfl
theorem noIs (v : Value) (xT : TypeId) (w : World) : (Instr.typeAssert (.iface 90 v) xT 115 true).run Try.prog w = .ok (.tuple #[.nilIface, .bool false]) w := run_typeAssert_lacksB Try.underlying115 (by kernel_rfl) (by kernel_rfl) v xT w
theorem noUnwrap (v : Value) (xT : TypeId) (w : World) : (Instr.typeAssert (.iface 90 v) xT 118 true).run Try.prog w = .ok (.tuple #[.nilIface, .bool false]) w := run_typeAssert_lacksB Try.underlying118 (by kernel_rfl) (by kernel_rfl) v xT w
theorem noUnwraps (v : Value) (xT : TypeId) (w : World) : (Instr.typeAssert (.iface 90 v) xT 120 true).run Try.prog w = .ok (.tuple #[.nilIface, .bool false]) w := run_typeAssert_lacksB Try.underlying120 (by kernel_rfl) (by kernel_rfl) v xT w

set_option maxRecDepth 100000 in
theorem is_num' (a b : Int) (r : Bool) (w : World) (hr : (a == b) = r) :
    Calls Try.prog 52 #[.iface 90 (.int .i64 a), .iface 90 (.int .i64 b)] w fun e w' => e = .returned (.bool r) ∧ w = w' := by
  obtain ⟨i, hi, hcmp⟩ := Option.map_eq_some_iff.1 isComp
  have h8 := @run_callFunc_extern Try.prog 64 _ Extern.ReflectliteType.typeOf Try.func64 (by kernel_rfl) (by kernel_rfl) (by kernel_rfl) (by kernel_rfl)
  have h32 := @run_callFunc_extern Try.prog 111 _ (Extern.ReflectliteType.method fun t => do noPackHeld "Comparable" t; pure (.bool (← typeInfo t).comparable)) Try.func111 (by kernel_rfl) (by kernel_rfl) (by kernel_rfl) (by kernel_rfl)
  have tT := isTypeOf
  have cT := isComparable
  have mR := methodComparable
  have nE := noIs
  have uE := noUnwrap
  have vE := noUnwraps
  have heq := run_eql_iface_int (P := Try.prog) w a b Try.underlying44 Try.underlying90 hi hcmp
  rw [hr] at heq
  clear hr
  cases r
  · go_enter Try.func52, Try.ntmps52
    go_wp2
    refine wp_loop_rounds 1 ?_
    rw [rounds_succ]
    go_wp2
    go_ret
    exact ⟨rfl, rfl⟩
  · go_enter Try.func52, Try.ntmps52
    go_wp2
    refine wp_loop_rounds 1 ?_
    rw [rounds_succ]
    go_wp2
    go_ret
    exact ⟨rfl, rfl⟩

/-- errors.Is of two numbers. -/
theorem is_num (a b : Int) (w : World) :
    Calls Try.prog 52 #[.iface 90 (.int .i64 a), .iface 90 (.int .i64 b)] w fun e w' => e = .returned (.bool (a == b)) ∧ w = w' := is_num' a b _ w rfl

/-- What Code tells. -/
def codeOf (a : Option Int) : Int := match a with | none => 0 | some c => if 1 ≤ c ∧ c ≤ 19 then c else -1
def errV : Option Int → Value
  | none => .nilIface
  | some c => .iface 90 (.int .i64 c)

theorem code_nil (w : World) : Calls Try.prog 33 #[.nilIface] w fun e w' => e = .returned (.int .i64 0) ∧ w = w' := by
  go_enter Try.func33, Try.ntmps33
  go_wp2
  go_ret
  exact ⟨rfl, rfl⟩

theorem codeOf_hit (c : Int) (h1 : 1 ≤ c) (h2 : c ≤ 19) : codeOf (some c) = c := by unfold codeOf; exact if_pos ⟨h1, h2⟩
theorem codeOf_miss (c : Int) (h : ∀ k : Nat, 1 ≤ k → k ≤ 19 → c ≠ k) : codeOf (some c) = -1 := by
  unfold codeOf
  exact if_neg fun ⟨h1, h2⟩ => h c.toNat (by omega) (by omega) (by omega)

theorem code_some (c : Int) (w : World) : Calls Try.prog 33 #[.iface 90 (.int .i64 c)] w fun e w' => e = .returned (.int .i64 (codeOf (some c))) ∧ w = w' := by
  go_enter Try.func33, Try.ntmps33
  go_wp2
  go_loop [3] (fun v => ∃ k : Nat, 1 ≤ k ∧ k ≤ 20 ∧ v = .int .i64 k ∧ Hid (∀ j : Nat, 1 ≤ j → j < k → c ≠ j)) (fun v => 20 - (intOf v).toNat)
  case atStart => exact ⟨1, by omega, by omega, rfl, fun j h1 h2 => by omega⟩
  case round =>
    obtain ⟨k, hk1, hk, rfl, HN⟩ := hrel
    by_cases hlt : k ≤ 19
    · by_cases hc : c = k
      · have hb : (c == (k : Int)) = true := by simpa using hc
        have H := Lib.hid hc
        clear hc
        go_wp2_with (go_at_call 52; refine (is_num' c _ true _ hb).mono ?_; rintro e w' ⟨rfl, rfl⟩)
        go_ret
        exact ⟨by rw [H.out, codeOf_hit _ (by omega) (by omega)]; rfl, rfl⟩
      · have hb : (c == (k : Int)) = false := by simpa using hc
        have H : Hid (∀ j : Nat, 1 ≤ j → j < k + 1 → c ≠ j) := fun j h1 h2 => by
          by_cases e : j = k
          · subst e; exact hc
          · exact HN.out j h1 (by omega)
        clear hc
        go_wp2_with (go_at_call 52; refine (is_num' c _ false _ hb).mono ?_; rintro e w' ⟨rfl, rfl⟩)
        go_round
        case rel => exact ⟨k + 1, by omega, by omega, by go_num, H⟩
        case measure => simp [intOf]; omega
    · have H : Hid (codeOf (some c) = -1) := codeOf_miss c fun j h1 h2 => HN.out j h1 (by omega)
      go_wp2
      go_ret
      exact ⟨by rw [H.out]; rfl, rfl⟩

theorem code_any (a : Option Int) (w : World) : Calls Try.prog 33 #[errV a] w fun e w' => e = .returned (.int .i64 (codeOf a)) ∧ w = w' := by
  cases a with
  | none => exact code_nil w
  | some c => exact code_some c w
#print axioms code_any

end Go.Proofs.Ytacdocchcfbgcaa.HErr
