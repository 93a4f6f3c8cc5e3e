/-
  dolmenlaw3's FaultOrder.
-/
import Derived.Test.YtjmmagodjpmihaaDoorKLaws
import Derived.Test.YtjmmagodjpmihaaDoorKCard
set_option linter.unusedVariables false
set_option linter.unusedSimpArgs false
namespace Go.Proofs.YtjmmagodjpmihaaDoor.KA
open Go.RowKit Go.Extern.Stop Go.Stop Go.Extern Go.Extern.Rtype Go.Proofs.YtjmmagodjpmihaaDoor.KF

def wrapE (code : Int) : List ByteArray → Er
  | [] => .num code
  | x :: l => .fault x ⟨#[47, 112]⟩ (wrapE code l)
theorem wrapE_inner (code : Int) : ∀ l, (wrapE code l).inner = .num code
  | [] => rfl
  | _ :: l => wrapE_inner code l
theorem wrapE_ch (code : Int) : ∀ l : List ByteArray, (∀ x ∈ l, x.size ≤ 60) → Ch (fF (wrapE code l)) (l.map fun x => x ++ ⟨#[32]⟩ ++ ⟨#[47, 112]⟩)
  | [], _ => .nil
  | x :: l, h => .cons x ⟨#[47, 112]⟩ _ _ (wrapE_ch code l fun y hy => h y (List.mem_cons_of_mem _ hy)) (Nat.le_trans (h x List.mem_cons_self) (by decide)) (by decide)
theorem wrapE_drop (code : Int) (l : List ByteArray) (j : Nat) (h : j < l.length) : Er.fault l[j] ⟨#[47, 112]⟩ (wrapE code (l.drop (j + 1))) = wrapE code (l.drop j) := by rw [List.drop_eq_getElem_cons h]; rfl
set_option maxHeartbeats 4000000 in
set_option maxRecDepth 100000 in
theorem order (A : Option Addr) (cap : Nat) (l : List ByteArray) (n : Nat) (hn : l.length = n) (code : Int) (w : World) (hr : ARow w Value.string A l) (hG : w.cell? ⟨0, 0, none⟩ = some errT) :
    Calls Tryd.prog 4 #[.slice A n cap, .int .i64 code] w fun ev w' => ev = .returned (.bool true) ∧ Below w.heap.size w w' := by
  have HG := Asi.mk hG
  have HG0 := Asi.mk (World.block_lt_of_cell? w _ hG)
  have HR := Asi.mk hr
  have HN := Asi.mk hn
  clear hG hr hn
  have AW := Asi.mk (awake_any w HG.out)
  by_cases g0 : n = 0
  · go_enter Tryd.func4, Tryd.ntmps4
    go_wp2_with fail
    refine AW.out.mono ?_
    rintro e_ w1 ⟨rfl, hb⟩
    go_wp2
    go_ret
    exact ⟨rfl, hb⟩
  by_cases g1 : (30 : Int) < (n : Int)
  · go_enter Tryd.func4, Tryd.ntmps4
    go_wp2_with fail
    refine AW.out.mono ?_
    rintro e_ w1 ⟨rfl, hb⟩
    go_wp2
    go_ret
    exact ⟨rfl, hb⟩
  by_cases g2 : code < 1
  · go_enter Tryd.func4, Tryd.ntmps4
    go_wp2_with fail
    refine AW.out.mono ?_
    rintro e_ w1 ⟨rfl, hb⟩
    go_wp2
    go_ret
    exact ⟨rfl, hb⟩
  by_cases g3 : 19 < code
  · go_enter Tryd.func4, Tryd.ntmps4
    go_wp2_with fail
    refine AW.out.mono ?_
    rintro e_ w1 ⟨rfl, hb⟩
    go_wp2
    go_ret
    exact ⟨rfl, hb⟩
  clear AW
  go_enter Tryd.func4, Tryd.ntmps4
  go_wp2
  go_loopg [5, 6] n (fun kq v5 v6 wr => ∃ j : Nat, j ≤ n ∧ v6 = .int .i64 ((j : Int) - 1) ∧ Asi (kq = j) ∧ Asi (EV wr (wrapE code (l.drop j)) v5) ∧ Asi (∀ x ∈ l.drop j, x.size ≤ 60) ∧ Asi (Below w.heap.size w wr))
  case atStart => exact ⟨n, Nat.le_refl _, rfl, ⟨rfl⟩, ⟨by rw [← HN.out, List.drop_length]; exact rfl⟩, ⟨by rw [← HN.out]; simp⟩, ⟨Below.refl _ _⟩⟩
  case round =>
    obtain ⟨j, hj, rfl, HK, HE, HS, HB⟩ := hrel
    have HGr := Asi.mk ((HB.out.cell HG0.out).trans HG.out)
    rcases j with _ | j
    · have HE0 := Asi.mk (show EV wr (wrapE code l) _ from HE.out)
      have HS0 := Asi.mk (show ∀ x ∈ l, x.size ≤ 60 from HS.out)
      clear HE HS HK hj
      obtain ⟨x0, l', hl'⟩ : ∃ x0 l', l = x0 :: l' := by
        cases l with
        | nil => exact absurd HN.out (fun h => g0 (by simpa using h.symm))
        | cons x l => exact ⟨x, l, rfl⟩
      obtain ⟨a, rfl, hc0⟩ := HR.out 0 (by rw [HN.out]; omega)
      have hx0 : l[0]'(by rw [HN.out]; omega) = x0 := by simp [hl']
      rw [hx0] at hc0
      have HC0 := Asi.mk ((World.block_lt_of_cell? w _ hc0))
      have hop : Asi (Calls Tryd.prog 12 #[u5] wr fun ev w' => ev = .returned (.tuple #[.string x0, .string ⟨#[47, 112]⟩, .bool true]) ∧ Below wr.heap.size wr w') := ⟨by
        have h := op_any (some (wrapE code l)) u5 wr HE0.out HGr.out
        have e : (some (wrapE code l)).bind fF = some (x0, ⟨#[47, 112]⟩, wrapE code l') := by rw [hl']; rfl
        rw [e] at h
        exact h⟩
      have HL' := Asi.mk hl'
      have HC00 := Asi.mk hc0
      clear hl' hx0 hc0
      go_wp2_with fail
      refine hop.out.mono ?_
      rintro e_ w1 ⟨rfl, b1⟩
      have B1 := Asi.mk (below_step HB.out HB.out.size b1)
      have E1 := Asi.mk (EV_below HE0.out b1)
      have G1 := Asi.mk ((B1.out.cell HG0.out).trans HG.out)
      clear b1 hop
      go_wp2_with fail
      refine (chain_any (some (wrapE code l)) u5 (l.map fun x => x ++ (⟨#[32]⟩ : ByteArray) ++ (⟨#[47, 112]⟩ : ByteArray)) w1 E1.out G1.out (show Ch ((some (wrapE code l)).bind fF) _ from wrapE_ch code l HS0.out) (by rw [List.length_map, HN.out]; omega)).mono ?_
      rintro e_ w2 ⟨u2, rfl, h2, b2⟩
      have B2 := Asi.mk (below_step B1.out B1.out.size b2)
      have E2 := Asi.mk (EV_below E1.out b2)
      obtain ⟨A2, c2, rfl, hr2⟩ := srow_own h2
      have R2 := Asi.mk hr2
      have hc0 := (B2.out.cell HC0.out).trans HC00.out
      have ha0 : a.add 0 = a := by cases a; rfl
      rw [ha0] at hc0
      clear ha0
      rw [List.length_map, HN.out]
      clear b2 h2 hr2
      go_wp2
      go_loopg [11] n (fun kq v11 wr2 => ∃ i : Nat, i ≤ n ∧ v11 = .int .i64 i ∧ Asi (kq = n - i) ∧ Asi (Below w2.heap.size w2 wr2))
      case atStart => exact ⟨0, Nat.zero_le _, rfl, ⟨rfl⟩, ⟨Below.refl _ _⟩⟩
      case round =>
        obtain ⟨i, hi, rfl, HK, HB2⟩ := hrel
        have B3 := Asi.mk (below_step B2.out B2.out.size HB2.out)
        by_cases hlt : i < n
        · have hlt' : (i : Int) < (n : Int) := by omega
          have hi0 : (0 : Int) ≤ (i : Int) := by omega
          have hll : i < l.length := by rw [HN.out]; exact hlt
          obtain ⟨g, rfl, hcell⟩ := R2.out i (by rw [List.length_map]; exact hll)
          obtain ⟨a2, ha2, hcell2⟩ := HR.out i hll
          obtain rfl : a = a2 := Option.some.inj ha2
          rw [List.getElem_map] at hcell
          replace hcell := (HB2.out.cell (World.block_lt_of_cell? w2 _ hcell)).trans hcell
          replace hcell2 := (B3.out.cell (World.block_lt_of_cell? w _ hcell2)).trans hcell2
          have hx60 := HS0.out _ (List.getElem_mem hll)
          generalize l[i] = x at *
          have hxx : x ++ (⟨#[32]⟩ : ByteArray) ++ (⟨#[47, 112]⟩ : ByteArray) = x ++ ⟨#[32, 47, 112]⟩ := by rw [ByteArray.append_assoc]; rfl
          rw [hxx] at hcell
          have hcat : ∀ W : World, (Op.stringOp .add x ⟨#[32, 47, 112]⟩).run Tryd.prog W = .ok (.string (x ++ ⟨#[32, 47, 112]⟩)) W := fun W => run_string_add_sum W _ _ (by show x.size + 3 ≤ _; omega)
          have HI := Asi.mk hi
          have HLT := Asi.mk hlt
          clear hi hlt hxx hx60 ha2 hll
          go_wp2
          go_quiet (fail)
          go_wp2
          obtain ⟨k1, hk1⟩ : ∃ k1, gk = k1 + 1 := ⟨gk - 1, by have := HK.out; have := HLT.out; omega⟩
          subst hk1
          go_roundg k1
          case measure => omega
          case rel => exact ⟨i + 1, HLT.out, by go_num, ⟨by have := HK.out; omega⟩, ⟨⟨HB2.out.os, HB2.out.tape, HB2.out.output, HB2.out.size, HB2.out.block⟩⟩⟩
        · have hlt' : ¬ (i : Int) < (n : Int) := by omega
          have E3 := Asi.mk (EV_below E2.out HB2.out)
          clear HB2
          go_wp2_with fail
          refine (inner_any (some (wrapE code l)) _ wr E3.out).mono ?_
          rintro e_ w3 ⟨u3, rfl, h3, rfl⟩
          obtain rfl : u3 = .iface 28 (.int .i64 code) := by
            have h : EV wr ((wrapE code l).inner) u3 := h3
            rw [wrapE_inner] at h
            exact h
          have tN := isErrno
          have G3 := Asi.mk ((B3.out.cell HG0.out).trans HG.out)
          clear h3
          go_wp2_with fail
          refine (awake_any wr G3.out).mono ?_
          rintro e_ w4 ⟨rfl, b4⟩
          have B4 := Asi.mk (below_step B3.out B3.out.size b4)
          clear b4
          go_wp2
          go_ret
          exact ⟨rfl, B4.out⟩
    · have hlt : j < l.length := by have := HN.out; omega
      have hn0 : ¬ (((j + 1 : Nat) : Int) - 1 < 0) := by omega
      obtain ⟨a, rfl, hcell⟩ := HR.out j hlt
      have HEQ := Asi.mk (wrapE_drop code l j hlt)
      have HS2 : Asi (l[j].size ≤ 60 → ∀ x ∈ l.drop j, x.size ≤ 60) := ⟨fun h x hx => by
        rw [List.drop_eq_getElem_cons hlt] at hx
        rcases List.mem_cons.1 hx with rfl | hx
        · exact h
        · exact HS.out x hx⟩
      replace hcell := (HB.out.cell (World.block_lt_of_cell? w _ hcell)).trans hcell
      generalize l[j] = x at *
      have HJ := Asi.mk hj
      have hjn : j < n := by omega
      clear hj hlt HS
      by_cases hx : (60 : Int) < (x.size : Int)
      · go_wp2_with fail
        refine (awake_any wr HGr.out).mono ?_
        rintro e_ w1 ⟨rfl, b1⟩
        have B1 := Asi.mk (below_step HB.out HB.out.size b1)
        clear b1
        go_wp2
        go_ret
        exact ⟨rfl, B1.out⟩
      · have HX := Asi.mk hx
        obtain ⟨tt, xx, rfl⟩ := EV_iface HE.out
        go_wp2_with fail
        refine (new_any x ⟨#[47, 112]⟩ (some (wrapE code (l.drop (j + 1)))) _ wr HE.out).mono ?_
        rintro e_ w1 ⟨u1, rfl, h1, b1⟩
        have H1 := Asi.mk (show EV w1 (Er.fault x ⟨#[47, 112]⟩ (wrapE code (l.drop (j + 1)))) u1 from h1)
        have B1 := Asi.mk (below_step HB.out HB.out.size b1)
        clear h1 b1
        have HK' := HK.out
        subst HK'
        go_wp2
        go_roundg j
        case measure => omega
        case rel => exact ⟨j, by have := HJ.out; omega, by go_num, ⟨rfl⟩, ⟨by rw [← HEQ.out]; exact H1.out⟩, ⟨HS2.out (by have := HX.out; omega)⟩, B1⟩
end Go.Proofs.YtjmmagodjpmihaaDoor.KA
