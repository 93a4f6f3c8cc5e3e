/-
  dolmenlaw3's FaultNone.
-/
import Derived.Test.YtjmmagodjpmihaaDoorKLaws
import Derived.Test.YtjmmagodjpmihaaDoorKCard
set_option linter.unusedVariables false
set_option linter.unusedSimpArgs false
namespace Go.Proofs.YtjmmagodjpmihaaDoor.KA
open Go.RowKit Go.Extern.Stop Go.Stop Go.Extern Go.Extern.Rtype Go.Proofs.YtjmmagodjpmihaaDoor.KF

set_option maxHeartbeats 4000000 in
set_option maxRecDepth 100000 in
theorem noneL (A : Option Addr) (cap : Nat) (l : List Bool) (n : Nat) (hn : l.length = n) (name : ByteArray) (w : World) (hr : ARow w Value.bool A l) (hG : w.cell? ⟨0, 0, none⟩ = some errT) :
    Calls Tryd.prog 9 #[.slice A n cap, .string name] w fun ev w' => ev = .returned (.bool true) ∧ Below w.heap.size w w' := by
  have HG := Asi.mk hG
  have HG0 := Asi.mk (World.block_lt_of_cell? w _ hG)
  have HR := Asi.mk hr
  have HN := Asi.mk hn
  clear hG hr hn
  have AW := Asi.mk (awake_any w HG.out)
  by_cases g0 : (60 : Int) < (n : Int)
  · go_enter Tryd.func9, Tryd.ntmps9
    go_wp2_with fail
    refine AW.out.mono ?_
    rintro e_ w1 ⟨rfl, hb⟩
    go_wp2
    go_ret
    exact ⟨rfl, hb⟩
  by_cases g1 : (100 : Int) < (name.size : Int)
  · go_enter Tryd.func9, Tryd.ntmps9
    go_wp2_with fail
    refine AW.out.mono ?_
    rintro e_ w1 ⟨rfl, hb⟩
    go_wp2
    go_ret
    exact ⟨rfl, hb⟩
  clear AW
  go_enter Tryd.func9, Tryd.ntmps9
  go_wp2
  go_loopg [5, 6] n (fun kq v5 v6 wr => ∃ i : Nat, i ≤ n ∧ v6 = .int .i64 i ∧ v5 = .nilIface ∧ Asi (kq = n - i) ∧ Asi (Below w.heap.size w wr))
  case atStart => exact ⟨0, Nat.zero_le _, rfl, rfl, ⟨rfl⟩, ⟨Below.refl _ _⟩⟩
  case round =>
    obtain ⟨i, hi, rfl, rfl, HK, HB⟩ := hrel
    have HGr := Asi.mk ((HB.out.cell HG0.out).trans HG.out)
    by_cases hlt : i < n
    · have hlt' : (i : Int) < (n : Int) := by omega
      have hi0 : (0 : Int) ≤ (i : Int) := by omega
      have hll : i < l.length := by rw [HN.out]; exact hlt
      obtain ⟨a, rfl, hcell⟩ := HR.out i hll
      replace hcell := (HB.out.cell (World.block_lt_of_cell? w _ hcell)).trans hcell
      generalize l[i] = x at *
      have HI := Asi.mk hi
      have HLT := Asi.mk hlt
      clear hi hlt hll
      obtain ⟨k1, hk1⟩ : ∃ k1, gk = k1 + 1 := ⟨gk - 1, by have := HK.out; have := HLT.out; omega⟩
      cases x with
      | true =>
        go_wp2_with fail
        refine (new_any name ⟨#[47]⟩ none .nilIface wr rfl).mono ?_
        rintro e_ w1 ⟨u1, rfl, h1, b1⟩
        obtain rfl := (show u1 = .nilIface from h1)
        have B1 := Asi.mk (below_step HB.out HB.out.size b1)
        clear b1 h1
        subst hk1
        go_wp2
        go_roundg k1
        case measure => omega
        case rel => exact ⟨i + 1, HLT.out, by go_num, rfl, ⟨by have := HK.out; omega⟩, B1⟩
      | false =>
        go_wp2_with fail
        refine (both_any none none .nilIface .nilIface wr rfl rfl).mono ?_
        rintro e_ w1 ⟨u1, rfl, h1, b1⟩
        obtain rfl := (show u1 = .nilIface from h1)
        have B1 := Asi.mk (below_step HB.out HB.out.size b1)
        clear b1 h1
        subst hk1
        go_wp2
        go_roundg k1
        case measure => omega
        case rel => exact ⟨i + 1, HLT.out, by go_num, rfl, ⟨by have := HK.out; omega⟩, B1⟩
    · have hlt' : ¬ (i : Int) < (n : Int) := by omega
      go_wp2_with fail
      refine (show Calls Tryd.prog 12 #[.nilIface] wr fun ev w' => ev = .returned (.tuple #[.string ⟨#[]⟩, .string ⟨#[]⟩, .bool false]) ∧ Below wr.heap.size wr w' from op_any none .nilIface wr rfl HGr.out).mono ?_
      rintro e_ w1 ⟨rfl, b1⟩
      have B1 := Asi.mk (below_step HB.out HB.out.size b1)
      have G1 := Asi.mk ((B1.out.cell HG0.out).trans HG.out)
      clear b1
      go_wp2_with fail
      refine (show Calls Tryd.prog 17 #[.nilIface] w1 fun ev w' => ev = .returned (.int .i64 0) ∧ Below w1.heap.size w1 w' from code_any none .nilIface w1 rfl G1.out).mono ?_
      rintro e_ w2 ⟨rfl, b2⟩
      have B2 := Asi.mk (below_step B1.out B1.out.size b2)
      have G2 := Asi.mk ((B2.out.cell HG0.out).trans HG.out)
      clear b2
      go_wp2_with fail
      refine (chain_any none .nilIface [] w2 rfl G2.out .nil (by decide)).mono ?_
      rintro e_ w3 ⟨u3, rfl, h3, b3⟩
      have B3 := Asi.mk (below_step B2.out B2.out.size b3)
      have G3 := Asi.mk ((B3.out.cell HG0.out).trans HG.out)
      obtain ⟨A3, c3, rfl, hr3⟩ := srow_own h3
      clear b3 h3 hr3
      go_wp2_with fail
      refine (inner_any none .nilIface w3 rfl).mono ?_
      rintro e_ w4 ⟨u4, rfl, h4, rfl⟩
      obtain rfl := (show u4 = .nilIface from h4)
      clear h4
      go_wp2_with fail
      have hb5 : Below w3.heap.size w3 (w3.alloc (.cells #[.int .i64 1, .int .i64 5] 28)) := below_al (Below.refl _ _) (Nat.le_refl _) _
      refine (isMany none .nilIface (.slice (some ⟨w3.heap.size, 0, none⟩) 2 2) [1, 5] _ rfl (srow_blk (enc := Value.int .i64) (l := [1, 5]) (heap_new _ _)) (by decide)).mono ?_
      rintro e_ w5 ⟨rfl, rfl⟩
      have B5 := Asi.mk (below_step B3.out B3.out.size hb5)
      have G5 := Asi.mk ((B5.out.cell HG0.out).trans HG.out)
      clear hb5
      rw [show List.any [1, 5] (oIs none) = false from rfl]
      go_wp2_with fail
      refine (awake_any _ G5.out).mono ?_
      rintro e_ w6 ⟨rfl, b6⟩
      have B6 := Asi.mk (below_step B5.out B5.out.size b6)
      clear b6
      go_wp2
      go_ret
      exact ⟨rfl, B6.out⟩
end Go.Proofs.YtjmmagodjpmihaaDoor.KA
