/-
  dolmenlaw3's laws on whole numbers and words: FaultKeeps, FaultBoth.
-/
import Derived.Test.YtjmmagodjpmihaaDoorKAwake
import Derived.Test.YtjmmagodjpmihaaDoorKAsP
set_option linter.unusedVariables false
set_option linter.unusedSimpArgs false
namespace Go.Proofs.YtjmmagodjpmihaaDoor.KA
open Go.RowKit Go.Extern.Stop Go.Stop Go.Extern Go.Extern.Rtype Go.Proofs.YtjmmagodjpmihaaDoor.KF

theorem isFault (x : Value) (w : World) : (Instr.typeAssert (.iface 23 x) 26 23 true).run Tryd.prog w = .ok (.tuple #[x, .bool true]) w := by kernel_rfl
theorem isErrno (x : Value) (w : World) : (Instr.typeAssert (.iface 28 x) 26 28 true).run Tryd.prog w = .ok (.tuple #[x, .bool true]) w := by kernel_rfl
set_option maxHeartbeats 4000000 in
set_option maxRecDepth 100000 in
theorem keeps (op path : ByteArray) (code : Int) (w : World) (hG : w.cell? ⟨0, 0, none⟩ = some errT) :
    Calls Tryd.prog 3 #[.string op, .string path, .int .i64 code] w fun ev w' => ev = .returned (.bool true) ∧ Below w.heap.size w w' := by
  have HG := Asi.mk hG
  have HG0 := Asi.mk (World.block_lt_of_cell? w _ hG)
  clear hG
  have AW := Asi.mk (awake_any w HG.out)
  by_cases h1 : (100 : Int) < (op.size : Int)
  · go_enter Tryd.func3, Tryd.ntmps3
    go_wp2_with fail
    refine AW.out.mono ?_
    rintro e_ w1 ⟨rfl, hb⟩
    go_wp2
    go_ret
    exact ⟨rfl, hb⟩
  by_cases h2 : (100 : Int) < (path.size : Int)
  · go_enter Tryd.func3, Tryd.ntmps3
    go_wp2_with fail
    refine AW.out.mono ?_
    rintro e_ w1 ⟨rfl, hb⟩
    go_wp2
    go_ret
    exact ⟨rfl, hb⟩
  by_cases h3 : code < 1
  · go_enter Tryd.func3, Tryd.ntmps3
    go_wp2_with fail
    refine AW.out.mono ?_
    rintro e_ w1 ⟨rfl, hb⟩
    go_wp2
    go_ret
    exact ⟨rfl, hb⟩
  by_cases h4 : 19 < code
  · go_enter Tryd.func3, Tryd.ntmps3
    go_wp2_with fail
    refine AW.out.mono ?_
    rintro e_ w1 ⟨rfl, hb⟩
    go_wp2
    go_ret
    exact ⟨rfl, hb⟩
  clear AW
  go_enter Tryd.func3, Tryd.ntmps3
  go_wp2_with fail
  refine (new_any op path (some (.num code)) _ w rfl).mono ?_
  rintro e_ w1 ⟨u1, rfl, h1, b1⟩
  obtain ⟨b, ve, rfl, hblk, hve⟩ := (show EV w1 (.fault op path (.num code)) u1 from h1)
  obtain rfl := (show ve = .iface 28 (.int .i64 code) from hve)
  have c0 := blk_cell hblk 0
  have c1 := blk_cell hblk 1
  have c2 := blk_cell hblk 2
  have B1 := Asi.mk b1
  have G1 := Asi.mk ((b1.cell HG0.out).trans HG.out)
  clear h1 b1 hblk hve
  have tF := isFault
  have tN := isErrno
  go_wp2_with fail
  refine (awake_any w1 G1.out).mono ?_
  rintro e_ w2 ⟨rfl, b2⟩
  have B2 := Asi.mk (below_step B1.out B1.out.size b2)
  clear b2
  go_wp2
  go_ret
  exact ⟨rfl, B2.out⟩
set_option maxHeartbeats 4000000 in
set_option maxRecDepth 100000 in
theorem both (a c : Int) (w : World) (hG : w.cell? ⟨0, 0, none⟩ = some errT) :
    Calls Tryd.prog 5 #[.int .i64 a, .int .i64 c] w fun ev w' => ev = .returned (.bool true) ∧ Below w.heap.size w w' := by
  have HG := Asi.mk hG
  have HG0 := Asi.mk (World.block_lt_of_cell? w _ hG)
  clear hG
  have AW := Asi.mk (awake_any w HG.out)
  by_cases g0 : a < 1
  · go_enter Tryd.func5, Tryd.ntmps5
    go_wp2_with fail
    refine AW.out.mono ?_
    rintro e_ w1 ⟨rfl, hb⟩
    go_wp2
    go_ret
    exact ⟨rfl, hb⟩
  by_cases g1 : c < 1
  · go_enter Tryd.func5, Tryd.ntmps5
    go_wp2_with fail
    refine AW.out.mono ?_
    rintro e_ w1 ⟨rfl, hb⟩
    go_wp2
    go_ret
    exact ⟨rfl, hb⟩
  by_cases g2 : 19 < a
  · go_enter Tryd.func5, Tryd.ntmps5
    go_wp2_with fail
    refine AW.out.mono ?_
    rintro e_ w1 ⟨rfl, hb⟩
    go_wp2
    go_ret
    exact ⟨rfl, hb⟩
  by_cases g3 : 19 < c
  · go_enter Tryd.func5, Tryd.ntmps5
    go_wp2_with fail
    refine AW.out.mono ?_
    rintro e_ w1 ⟨rfl, hb⟩
    go_wp2
    go_ret
    exact ⟨rfl, hb⟩
  clear AW
  have tN := isErrno
  go_enter Tryd.func5, Tryd.ntmps5
  go_wp2_with fail
  refine (both_any (some (.num a)) (some (.num c)) _ _ w rfl rfl).mono ?_
  rintro e_ w1 ⟨u1, rfl, h1, b1⟩
  have H1 := Asi.mk (show EV w1 (.pair (.num a) (.num c)) u1 from h1)
  obtain ⟨t1, x1, rfl⟩ := EV_iface H1.out
  have B1 := Asi.mk b1
  have G1 := Asi.mk ((b1.cell HG0.out).trans HG.out)
  clear h1 b1
  go_wp2_with fail
  refine (both_any none (some (.num c)) _ _ w1 rfl rfl).mono ?_
  rintro e_ w2 ⟨u2, rfl, h2, b2⟩
  obtain rfl := (show u2 = .iface 28 (.int .i64 c) from h2)
  have B2 := Asi.mk (below_step B1.out B1.out.size b2)
  have H2 := Asi.mk (EV_below H1.out b2)
  clear h2 b2
  go_wp2_with fail
  refine (both_any (some (.num a)) none _ _ w2 rfl rfl).mono ?_
  rintro e_ w3 ⟨u3, rfl, h3, b3⟩
  obtain rfl := (show u3 = .iface 28 (.int .i64 a) from h3)
  have B3 := Asi.mk (below_step B2.out B2.out.size b3)
  have H3 := Asi.mk (EV_below H2.out b3)
  have G3 := Asi.mk ((B3.out.cell HG0.out).trans HG.out)
  clear h3 b3
  go_wp2_with fail
  refine (Is_o a (some (.pair (.num a) (.num c))) _ w3 H3.out).mono ?_
  rintro e_ w4 ⟨rfl, rfl⟩
  rw [show oIs (some (.pair (.num a) (.num c))) a = true by simp [oIs, isN]]
  go_wp2_with fail
  refine (Is_o c (some (.pair (.num a) (.num c))) _ w3 H3.out).mono ?_
  rintro e_ w4 ⟨rfl, rfl⟩
  rw [show oIs (some (.pair (.num a) (.num c))) c = true by simp [oIs, isN]]
  go_wp2_with fail
  refine (code_any (some (.pair (.num a) (.num c))) _ w3 H3.out G3.out).mono ?_
  rintro e_ w4 ⟨rfl, b4⟩
  have B4 := Asi.mk (below_step B3.out B3.out.size b4)
  rw [show codeE (some (.pair (.num a) (.num c))) = a from rfl]
  clear b4
  go_wp2_with fail
  refine (both_any none none _ _ w4 rfl rfl).mono ?_
  rintro e_ w5 ⟨u5, rfl, h5, b5⟩
  obtain rfl := (show u5 = .nilIface from h5)
  have B5 := Asi.mk (below_step B4.out B4.out.size b5)
  have G5 := Asi.mk ((B5.out.cell HG0.out).trans HG.out)
  clear h5 b5
  go_wp2_with fail
  refine (awake_any w5 G5.out).mono ?_
  rintro e_ w6 ⟨rfl, b6⟩
  have B6 := Asi.mk (below_step B5.out B5.out.size b6)
  clear b6
  go_wp2
  go_ret
  exact ⟨rfl, B6.out⟩
end Go.Proofs.YtjmmagodjpmihaaDoor.KA
