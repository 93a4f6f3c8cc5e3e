/-
  dolmenlaw3's FaultFinds.
-/
import Derived.Test.YtjmmagodjpmihaaDoorKLaws
import Derived.Test.YtjmmagodjpmihaaDoorKCard
set_option linter.unusedVariables false
set_option linter.unusedSimpArgs false
namespace Go.Proofs.YtjmmagodjpmihaaDoor.KA
open Go.RowKit Go.Extern.Stop Go.Stop Go.Extern Go.Extern.Rtype Go.Proofs.YtjmmagodjpmihaaDoor.KF

def stepE (name : ByteArray) (e : Er) (x : Bool) : Er := if x then .fault name ⟨#[47]⟩ e else .pair (.plain ⟨#[112]⟩) e
theorem isN_step (c : Int) (name : ByteArray) : ∀ (l : List Bool) (e : Er), isN c (l.foldl (stepE name) e) = isN c e
  | [], _ => rfl
  | x :: l, e => by rw [List.foldl_cons, isN_step c name l]; cases x <;> rfl
theorem fP_step (name : ByteArray) : ∀ (l : List Bool) (e : Er), (fP (l.foldl (stepE name) e)).isSome = ((fP e).isSome || l.any (!·))
  | [], e => by simp
  | x :: l, e => by rw [List.foldl_cons, fP_step name l]; cases x <;> simp [stepE, fP]
theorem fF_step (name : ByteArray) : ∀ (l : List Bool) (e : Er), (fF (l.foldl (stepE name) e)).isSome = ((fF e).isSome || l.any (fun x => x))
  | [], e => by simp
  | x :: l, e => by rw [List.foldl_cons, fF_step name l]; cases x <;> simp [stepE, fF]
theorem foldl_take {α β : Type} (f : β → α → β) (b : β) (l : List α) (i : Nat) (h : i < l.length) : (l.take (i + 1)).foldl f b = f ((l.take i).foldl f b) l[i] := by
  rw [List.take_succ_eq_append_getElem h, List.foldl_append]; rfl
theorem any_take {α : Type} (f : α → Bool) (l : List α) (i : Nat) (h : i < l.length) : (l.take (i + 1)).any f = ((l.take i).any f || f l[i]) := by
  rw [List.take_succ_eq_append_getElem h, List.any_append]; simp
theorem asP_bool (e : Er) (v : Value) (b : Nat) (w0 w : World) (hb0 : Below w0.heap.size w0 w) (hE : EV w0 e v) (hB : w.heap[b]? = some (.cells #[(.pointer none)] 44 (0, 0))) (hG : w.cell? ⟨0, 0, none⟩ = some errT) :
    Calls Tryd.prog 18 #[v, .iface 48 (.pointer (some ⟨b, 0, none⟩))] w fun ev w' => ev = .returned (.bool (fP e).isSome) ∧ w.grownBy w' (some b) := by
  refine (AsP e v b w0 w hb0 hE hB hG).mono ?_
  intro ev w' h
  cases q : fP e with
  | none => rw [q] at h; exact ⟨h.1, ⟨h.2.os, h.2.tape, h.2.output, h.2.size, fun i hi _ => h.2.block i hi⟩⟩
  | some x => rw [q] at h; exact ⟨h.1, h.2.1⟩
theorem asF_bool (e : Er) (v : Value) (b : Nat) (w0 w : World) (hb0 : Below w0.heap.size w0 w) (hE : EV w0 e v) (hB : w.heap[b]? = some (.cells #[(.pointer none)] 23 (0, 0))) (hG : w.cell? ⟨0, 0, none⟩ = some errT) :
    Calls Tryd.prog 18 #[v, .iface 49 (.pointer (some ⟨b, 0, none⟩))] w fun ev w' => ev = .returned (.bool (fF e).isSome) ∧ w.grownBy w' (some b) := by
  refine (AsF e v b w0 w hb0 hE hB hG).mono ?_
  intro ev w' h
  cases q : fF e with
  | none => rw [q] at h; exact ⟨h.1, ⟨h.2.os, h.2.tape, h.2.output, h.2.size, fun i hi _ => h.2.block i hi⟩⟩
  | some x => rw [q] at h; exact ⟨h.1, h.2.1⟩
set_option maxHeartbeats 4000000 in
set_option maxRecDepth 100000 in
theorem finds (code other : Int) (A : Option Addr) (cap : Nat) (l : List Bool) (n : Nat) (hn : l.length = n) (name : ByteArray) (w : World) (hr : ARow w Value.bool A l) (hG : w.cell? ⟨0, 0, none⟩ = some errT) :
    Calls Tryd.prog 6 #[.int .i64 code, .int .i64 other, .slice A n cap, .string name] w fun ev w' => ev = .returned (.bool true) ∧ Below w.heap.size w w' := by
  have HG := Asi.mk hG
  have HG0 := Asi.mk (World.block_lt_of_cell? w _ hG)
  have HR := Asi.mk hr
  have HN := Asi.mk hn
  clear hG hr hn
  have AW := Asi.mk (awake_any w HG.out)
  by_cases g0 : (60 : Int) < (n : Int)
  · go_enter Tryd.func6, Tryd.ntmps6
    go_wp2_with fail
    refine AW.out.mono ?_
    rintro e_ w1 ⟨rfl, hb⟩
    go_wp2
    go_ret
    exact ⟨rfl, hb⟩
  by_cases g1 : (100 : Int) < (name.size : Int)
  · go_enter Tryd.func6, Tryd.ntmps6
    go_wp2_with fail
    refine AW.out.mono ?_
    rintro e_ w1 ⟨rfl, hb⟩
    go_wp2
    go_ret
    exact ⟨rfl, hb⟩
  by_cases g2 : code < 1
  · go_enter Tryd.func6, Tryd.ntmps6
    go_wp2_with fail
    refine AW.out.mono ?_
    rintro e_ w1 ⟨rfl, hb⟩
    go_wp2
    go_ret
    exact ⟨rfl, hb⟩
  by_cases g3 : 19 < code
  · go_enter Tryd.func6, Tryd.ntmps6
    go_wp2_with fail
    refine AW.out.mono ?_
    rintro e_ w1 ⟨rfl, hb⟩
    go_wp2
    go_ret
    exact ⟨rfl, hb⟩
  by_cases g4 : other < 1
  · go_enter Tryd.func6, Tryd.ntmps6
    go_wp2_with fail
    refine AW.out.mono ?_
    rintro e_ w1 ⟨rfl, hb⟩
    go_wp2
    go_ret
    exact ⟨rfl, hb⟩
  by_cases g5 : 19 < other
  · go_enter Tryd.func6, Tryd.ntmps6
    go_wp2_with fail
    refine AW.out.mono ?_
    rintro e_ w1 ⟨rfl, hb⟩
    go_wp2
    go_ret
    exact ⟨rfl, hb⟩
  by_cases g6 : other = code
  · go_enter Tryd.func6, Tryd.ntmps6
    go_wp2_with fail
    refine AW.out.mono ?_
    rintro e_ w1 ⟨rfl, hb⟩
    go_wp2
    go_ret
    exact ⟨rfl, hb⟩
  clear AW
  go_enter Tryd.func6, Tryd.ntmps6
  go_wp2
  go_loopg [9, 10] n (fun kq v9 v10 wr => ∃ i : Nat, i ≤ n ∧ v10 = .int .i64 i ∧ Asi (EV wr ((l.take i).foldl (stepE name) (.num code)) v9) ∧ Asi (kq = n - i) ∧ Asi (Below w.heap.size w wr))
  case atStart => exact ⟨0, Nat.zero_le _, rfl, ⟨rfl⟩, ⟨rfl⟩, ⟨Below.refl _ _⟩⟩
  case round =>
    obtain ⟨i, hi, rfl, HE, HK, HB⟩ := hrel
    have HGr := Asi.mk ((HB.out.cell HG0.out).trans HG.out)
    by_cases hlt : i < n
    · have hlt' : (i : Int) < (n : Int) := by omega
      have hi0 : (0 : Int) ≤ (i : Int) := by omega
      have hll : i < l.length := by rw [HN.out]; exact hlt
      have HF := Asi.mk (foldl_take (stepE name) (.num code) l i hll)
      obtain ⟨a, rfl, hcell⟩ := HR.out i hll
      replace hcell := (HB.out.cell (World.block_lt_of_cell? w _ hcell)).trans hcell
      generalize l[i] = x at *
      have HI := Asi.mk hi
      have HLT := Asi.mk hlt
      obtain ⟨tt, xx, rfl⟩ := EV_iface HE.out
      clear hi hlt hll
      obtain ⟨k1, hk1⟩ : ∃ k1, gk = k1 + 1 := ⟨gk - 1, by have := HK.out; have := HLT.out; omega⟩
      cases x with
      | true =>
        go_wp2_with fail
        refine (new_any name ⟨#[47]⟩ (some ((l.take i).foldl (stepE name) (.num code))) _ wr HE.out).mono ?_
        rintro e_ w1 ⟨u1, rfl, h1, b1⟩
        have H1 := Asi.mk (show EV w1 (stepE name ((l.take i).foldl (stepE name) (.num code)) true) u1 from h1)
        have B1 := Asi.mk (below_step HB.out HB.out.size b1)
        clear b1 h1
        subst hk1
        go_wp2
        go_roundg k1
        case measure => omega
        case rel => exact ⟨i + 1, HLT.out, by go_num, ⟨by rw [HF.out]; exact H1.out⟩, ⟨by have := HK.out; omega⟩, B1⟩
      | false =>
        have hal : Below wr.heap.size wr (wr.alloc (.cells #[.string ⟨#[112]⟩] 46)) := below_al (Below.refl _ _) (Nat.le_refl _) _
        have HAL := Asi.mk hal
        have HE2 := Asi.mk (EV_below HE.out hal)
        clear hal
        go_wp2_with fail
        refine (both_any (some (.plain ⟨#[112]⟩)) (some ((l.take i).foldl (stepE name) (.num code))) _ _ _ (show EV _ _ _ from ⟨_, rfl, heap_new _ _⟩) HE2.out).mono ?_
        rintro e_ w1 ⟨u1, rfl, h1, b1⟩
        have H1 := Asi.mk (show EV w1 (stepE name ((l.take i).foldl (stepE name) (.num code)) false) u1 from h1)
        have B1 := Asi.mk (below_step HB.out HB.out.size (below_step HAL.out HAL.out.size b1))
        clear b1 h1
        subst hk1
        go_wp2
        go_roundg k1
        case measure => omega
        case rel => exact ⟨i + 1, HLT.out, by go_num, ⟨by rw [HF.out]; exact H1.out⟩, ⟨by have := HK.out; omega⟩, B1⟩
    · have hlt' : ¬ (i : Int) < (n : Int) := by omega
      have HE0 := Asi.mk (show EV wr (l.foldl (stepE name) (.num code)) u9 by have h := HE.out; rw [List.take_of_length_le (by rw [HN.out]; omega)] at h; exact h)
      obtain ⟨tt, xx, rfl⟩ := EV_iface HE0.out
      have I1 := Asi.mk (show oIs (some (l.foldl (stepE name) (.num code))) code = true by simp [oIs, isN_step, isN])
      have I2 := Asi.mk (show oIs (some (l.foldl (stepE name) (.num code))) other = false by simp [oIs, isN_step, isN]; omega)
      have P1 := Asi.mk (show (fP (l.foldl (stepE name) (.num code))).isSome = l.any (!·) by rw [fP_step]; rfl)
      have F1 := Asi.mk (show (fF (l.foldl (stepE name) (.num code))).isSome = l.any (fun x => x) by rw [fF_step]; rfl)
      generalize l.foldl (stepE name) (.num code) = E at *
      clear HE
      obtain ⟨W0, hW0⟩ : ∃ W0, W0 = wr := ⟨wr, rfl⟩
      subst hW0
      go_wp2
      go_loopg [13, 14, 15] n (fun kq v13 v14 v15 wr => ∃ i : Nat, i ≤ n ∧ v15 = .int .i64 i ∧ v13 = .bool ((l.take i).any (!·)) ∧ v14 = .bool ((l.take i).any fun x => x) ∧ Asi (kq = n - i) ∧ (W0.alloc (.cells #[.pointer none] 44)).alloc (.cells #[.pointer none] 23) = wr)
      case atStart => exact ⟨0, Nat.zero_le _, rfl, rfl, rfl, ⟨rfl⟩, rfl⟩
      case round =>
        obtain ⟨i, hi, rfl, rfl, rfl, HK2, rfl⟩ := hrel
        have b2 : Below W0.heap.size W0 ((W0.alloc (.cells #[.pointer none] 44)).alloc (.cells #[.pointer none] 23)) := below_al (below_al (Below.refl _ _) (Nat.le_refl _) _) (by simp) _
        have B2 := Asi.mk (below_step HB.out HB.out.size b2)
        have BW := Asi.mk b2
        clear b2
        by_cases hlt : i < n
        · have hlt' : (i : Int) < (n : Int) := by omega
          have hi0 : (0 : Int) ≤ (i : Int) := by omega
          have hll : i < l.length := by rw [HN.out]; exact hlt
          have HQ1 := Asi.mk (any_take (!·) l i hll)
          have HQ2 := Asi.mk (any_take (fun x => x) l i hll)
          obtain ⟨a, rfl, hcell⟩ := HR.out i hll
          replace hcell := (B2.out.cell (World.block_lt_of_cell? w _ hcell)).trans hcell
          generalize l[i] = x at *
          have HI := Asi.mk hi
          have HLT := Asi.mk hlt
          generalize hp : (l.take i).any (!·) = p at *
          generalize hq : (l.take i).any (fun x => x) = q at *
          clear hi hlt hll hp hq
          obtain ⟨k1, hk1⟩ : ∃ k1, gk = k1 + 1 := ⟨gk - 1, by have := HK2.out; have := HLT.out; omega⟩
          subst hk1
          cases p <;> cases q <;> cases x <;>
            (go_wp2
             go_roundg k1
             case measure => omega
             case rel => exact ⟨i + 1, HLT.out, by go_num, by rw [HQ1.out]; rfl, by rw [HQ2.out]; rfl, ⟨by have := HK2.out; omega⟩, rfl⟩)
        · have hlt' : ¬ (i : Int) < (n : Int) := by omega
          have hti : l.take i = l := List.take_of_length_le (by rw [HN.out]; omega)
          rw [hti, ← P1.out, ← F1.out]
          have HE2 := Asi.mk (EV_below HE0.out BW.out)
          have G2 := Asi.mk ((B2.out.cell HG0.out).trans HG.out)
          have BP := Asi.mk (show ((W0.alloc (.cells #[.pointer none] 44)).alloc (.cells #[.pointer none] 23)).heap[W0.heap.size]? = some (.cells #[.pointer none] 44 (0, 0)) from (alloc_lt _ _ (by simp)).trans (heap_new _ _))
          have BF := Asi.mk (show ((W0.alloc (.cells #[.pointer none] 44)).alloc (.cells #[.pointer none] 23)).heap[W0.heap.size + 1]? = some (.cells #[.pointer none] 23 (0, 0)) from by have h := heap_new (W0.alloc (.cells #[.pointer none] 44)) (.cells #[.pointer none] 23); simpa using h)
          have SZ := Asi.mk (show ((W0.alloc (.cells #[.pointer none] 44)).alloc (.cells #[.pointer none] 23)).heap.size = W0.heap.size + 2 by simp)
          clear hti
          generalize (W0.alloc (.cells #[.pointer none] 44)).alloc (.cells #[.pointer none] 23) = W2 at *
          go_wp2_with fail
          refine (Is_o code (some E) _ W2 HE2.out).mono ?_
          rintro e_ w3 ⟨rfl, rfl⟩
          rw [I1.out]
          go_wp2_with fail
          refine (Is_o other (some E) _ W2 HE2.out).mono ?_
          rintro e_ w3 ⟨rfl, rfl⟩
          rw [I2.out]
          go_wp2_with fail
          refine (asP_bool E _ W0.heap.size W0 W2 BW.out HE0.out BP.out G2.out).mono ?_
          rintro e_ w3 ⟨rfl, g3⟩
          have BW3 := Asi.mk (BW.out.grown g3 BW.out.size (fun q hq => by cases hq; exact Nat.le_refl _))
          have B3 := Asi.mk (below_step HB.out HB.out.size BW3.out)
          have G3 := Asi.mk ((B3.out.cell HG0.out).trans HG.out)
          have BF3 := Asi.mk ((g3.block (W0.heap.size + 1) (by rw [SZ.out]; omega) (by simp)).trans BF.out)
          clear g3
          cases hp : (fP E).isSome <;> cases hf : (fF E).isSome <;>
            (have HP := Asi.mk hp
             have HF := Asi.mk hf
             clear hp hf
             go_wp2_with fail
             refine (asF_bool E _ (W0.heap.size + 1) W0 w3 BW3.out HE0.out BF3.out G3.out).mono ?_
             rintro e_ w4 ⟨rfl, g4⟩
             rw [HF.out]
             have BW4 := Asi.mk (BW3.out.grown g4 BW3.out.size (fun q hq => by cases hq; omega))
             have B4 := Asi.mk (below_step HB.out HB.out.size BW4.out)
             have E4 := Asi.mk (EV_below HE0.out BW4.out)
             clear g4
             go_wp2_with fail
             have b5 : Below w4.heap.size w4 (w4.alloc (.cells #[.int .i64 other, .int .i64 code] 28)) := below_al (Below.refl _ _) (Nat.le_refl _) _
             refine (isMany (some E) _ (.slice (some ⟨w4.heap.size, 0, none⟩) 2 2) [other, code] _ (EV_below E4.out b5) (srow_blk (enc := Value.int .i64) (l := [other, code]) (heap_new _ _)) (by simp)).mono ?_
             rintro e_ w5 ⟨rfl, rfl⟩
             rw [show List.any [other, code] (oIs (some E)) = true by simp [I1.out]]
             have B5 := Asi.mk (below_step B4.out B4.out.size b5)
             have E5 := Asi.mk (EV_below E4.out b5)
             clear b5
             generalize w4.alloc (.cells #[.int .i64 other, .int .i64 code] 28) = W5 at *
             go_wp2_with fail
             have b6 : Below W5.heap.size W5 (W5.alloc (.cells #[.int .i64 other] 28)) := below_al (Below.refl _ _) (Nat.le_refl _) _
             refine (isMany (some E) _ (.slice (some ⟨W5.heap.size, 0, none⟩) 1 1) [other] _ (EV_below E5.out b6) (srow_blk (enc := Value.int .i64) (l := [other]) (heap_new _ _)) (by simp)).mono ?_
             rintro e_ w6 ⟨rfl, rfl⟩
             rw [show List.any [other] (oIs (some E)) = false by simp [I2.out]]
             have B6 := Asi.mk (below_step B5.out B5.out.size b6)
             have G6 := Asi.mk ((B6.out.cell HG0.out).trans HG.out)
             clear b6
             go_wp2_with fail
             refine (awake_any _ G6.out).mono ?_
             rintro e_ w7 ⟨rfl, b7⟩
             have B7 := Asi.mk (below_step B6.out B6.out.size b7)
             clear b7
             go_wp2
             go_ret
             exact ⟨rfl, B7.out⟩)
end Go.Proofs.YtjmmagodjpmihaaDoor.KA
