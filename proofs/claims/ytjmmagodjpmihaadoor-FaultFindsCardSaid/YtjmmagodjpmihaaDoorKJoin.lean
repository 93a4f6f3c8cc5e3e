/-
  errors.Join of two errors, and fault.Both, fault.New.
-/
import Derived.Test.YtjmmagodjpmihaaDoorKEr
import Derived.ArgAppend
set_option linter.unusedVariables false
set_option linter.unusedSimpArgs false
namespace Go.Proofs.YtjmmagodjpmihaaDoor.KA
open Go.RowKit Go.Extern.Stop Go.Stop Go.Extern Go.Extern.Rtype Go.Proofs.YtjmmagodjpmihaaDoor.KF

theorem mk2 (w : World) : (Instr.makeSlice 89 (.int .i64 0) (.int .i64 2)).run Tryd.prog w = .ok (.slice (some ⟨w.heap.size, 0, none⟩) 0 2) (w.alloc (.cells #[.nilIface, .nilIface] 26)) := by kernel_rfl
theorem infoE : (Tryd.prog.info? 26).map (·.size) = some 1 := by kernel_rfl
theorem app_err (W : World) (ty : TypeId) (g h n : Nat) (cs : Array Value) (x : Value) (hx1 : x.oneCell' = true) (hg : W.heap[g]? = some (.cells cs 26 (0, 0))) (hh : W.heap[h]? = some (.cells #[x] 26 (0, 0))) (hn : n < 2) (hsz : cs.size = 2) :
    (Builtin.append_ #[89, 89] ty #[.slice (some ⟨g, 0, none⟩) n 2, .slice (some ⟨h, 0, none⟩) 1 1]).run Tryd.prog W = .ok (.slice (some ⟨g, 0, none⟩) (n + 1) 2) (W.setCell ⟨g, n, none⟩ x) := by
  obtain ⟨i, hi, hs⟩ := Option.map_eq_some_iff.1 infoE
  have h1 := run_append_room_cells (P := Tryd.prog) W (ty := ty) 89 26 i Tryd.underlying89 hi g 0 n 2 ⟨h, 0, none⟩ 1 1 [x] (by rw [hs]; rfl)
    (by
      intro j u hj
      rcases j with _ | j
      · rw [show (⟨h, 0, none⟩ : Addr).add 0 = ⟨h, 0, none⟩ from rfl, blk_cell hh 0]
        simpa using hj
      · simp at hj)
    (by intro u hu; rw [List.mem_singleton.1 hu]; exact hx1) (by omega)
    (by
      intro j hj
      have : j = 0 := by simpa using hj
      subst this
      rw [hs, blk_cell hg]
      simp [hsz]
      omega)
    (by intro j hj; exact blk_frozen hg _)
  rw [hs] at h1
  simpa [World.setCells] using h1
theorem set_at {w : World} {g : Nat} {t : TypeId} {cs : Array Value} (h : w.heap[g]? = some (.cells cs t (0, 0))) (i : Nat) (u : Value) : (w.setCell ⟨g, i, none⟩ u).heap[g]? = some (.cells (cs.setIfInBounds i u) t (0, 0)) := by
  simp [World.setCell, Array.getElem?_modify, h]
theorem set_far {w : World} {g : Nat} {o : Obj} (h : w.heap[g]? = some o) {p : Addr} (hp : g ≠ p.block) (u : Value) : (w.setCell p u).heap[g]? = some o := (Below.heap_setCell w p u g hp).trans h
theorem al_old {w : World} {g : Nat} {o o' : Obj} (h : w.heap[g]? = some o) : (w.alloc o').heap[g]? = some o := (alloc_lt w o' (lt_of h)).trans h

set_option maxHeartbeats 4000000 in
set_option maxRecDepth 100000 in
theorem join2 (t1 t2 : TypeId) (x1 x2 : Value) (g : Nat) (w : World) (hg : w.heap[g]? = some (.cells #[.iface t1 x1, .iface t2 x2] 26 (0, 0))) :
    Calls Tryd.prog 29 #[.slice (some ⟨g, 0, none⟩) 2 2] w fun ev w' => ev = .returned (.iface 90 (.pointer (some ⟨w.heap.size + 1, 0, none⟩))) ∧
      w'.heap[w.heap.size + 1]? = some (.cells #[.slice (some ⟨w.heap.size, 0, none⟩) 2 2] 92 (0, 0)) ∧ w'.heap[w.heap.size]? = some (.cells #[.iface t1 x1, .iface t2 x2] 26 (0, 0)) ∧ Below w.heap.size w w' := by
  have hgl := lt_of hg
  have c0 := blk_cell hg 0
  have c1 := blk_cell hg 1
  have m2 := mk2 w
  have a2 : ((w.alloc (.cells #[.nilIface, .nilIface] 26)).alloc (.cells #[.slice (some ⟨w.heap.size, 0, none⟩) 0 2] 92)).heap[w.heap.size]? = some (.cells #[.nilIface, .nilIface] 26 (0, 0)) := al_old (heap_new _ _)
  have j2 : ((w.alloc (.cells #[.nilIface, .nilIface] 26)).alloc (.cells #[.slice (some ⟨w.heap.size, 0, none⟩) 0 2] 92)).heap[w.heap.size + 1]? = some (.cells #[.slice (some ⟨w.heap.size, 0, none⟩) 0 2] 92 (0, 0)) := (by have h_ := heap_new (w.alloc (.cells #[.nilIface, .nilIface] 26)) (.cells #[.slice (some ⟨w.heap.size, 0, none⟩) 0 2] 92); simpa using h_)
  have g2 : ((w.alloc (.cells #[.nilIface, .nilIface] 26)).alloc (.cells #[.slice (some ⟨w.heap.size, 0, none⟩) 0 2] 92)).heap[g]? = some (.cells #[(.iface t1 x1), (.iface t2 x2)] 26 (0, 0)) := al_old (al_old (hg))
  have a3 : (((w.alloc (.cells #[.nilIface, .nilIface] 26)).alloc (.cells #[.slice (some ⟨w.heap.size, 0, none⟩) 0 2] 92)).alloc (.cells #[(.iface t1 x1)] 26)).heap[w.heap.size]? = some (.cells #[.nilIface, .nilIface] 26 (0, 0)) := al_old (al_old (heap_new _ _))
  have j3 : (((w.alloc (.cells #[.nilIface, .nilIface] 26)).alloc (.cells #[.slice (some ⟨w.heap.size, 0, none⟩) 0 2] 92)).alloc (.cells #[(.iface t1 x1)] 26)).heap[w.heap.size + 1]? = some (.cells #[.slice (some ⟨w.heap.size, 0, none⟩) 0 2] 92 (0, 0)) := al_old ((by have h_ := heap_new (w.alloc (.cells #[.nilIface, .nilIface] 26)) (.cells #[.slice (some ⟨w.heap.size, 0, none⟩) 0 2] 92); simpa using h_))
  have g3 : (((w.alloc (.cells #[.nilIface, .nilIface] 26)).alloc (.cells #[.slice (some ⟨w.heap.size, 0, none⟩) 0 2] 92)).alloc (.cells #[(.iface t1 x1)] 26)).heap[g]? = some (.cells #[(.iface t1 x1), (.iface t2 x2)] 26 (0, 0)) := al_old (al_old (al_old (hg)))
  have n3 : (((w.alloc (.cells #[.nilIface, .nilIface] 26)).alloc (.cells #[.slice (some ⟨w.heap.size, 0, none⟩) 0 2] 92)).alloc (.cells #[(.iface t1 x1)] 26)).heap[w.heap.size + 1 + 1]? = some (.cells #[(.iface t1 x1)] 26 (0, 0)) := by have h_ := heap_new ((w.alloc (.cells #[.nilIface, .nilIface] 26)).alloc (.cells #[.slice (some ⟨w.heap.size, 0, none⟩) 0 2] 92)) (.cells #[(.iface t1 x1)] 26); simpa using h_
  have r1 := app_err (((w.alloc (.cells #[.nilIface, .nilIface] 26)).alloc (.cells #[.slice (some ⟨w.heap.size, 0, none⟩) 0 2] 92)).alloc (.cells #[(.iface t1 x1)] 26)) 89 w.heap.size (w.heap.size + 1 + 1) 0 _ (.iface t1 x1) rfl a3 n3 (by omega) rfl
  have a4 : (((w.alloc (.cells #[(.iface t1 x1), .nilIface] 26)).alloc (.cells #[.slice (some ⟨w.heap.size, 0, none⟩) 0 2] 92)).alloc (.cells #[(.iface t1 x1)] 26)).heap[w.heap.size]? = some (.cells #[(.iface t1 x1), .nilIface] 26 (0, 0)) := al_old (al_old (heap_new _ _))
  have j4 : (((w.alloc (.cells #[(.iface t1 x1), .nilIface] 26)).alloc (.cells #[.slice (some ⟨w.heap.size, 0, none⟩) 0 2] 92)).alloc (.cells #[(.iface t1 x1)] 26)).heap[w.heap.size + 1]? = some (.cells #[.slice (some ⟨w.heap.size, 0, none⟩) 0 2] 92 (0, 0)) := al_old ((by have h_ := heap_new (w.alloc (.cells #[(.iface t1 x1), .nilIface] 26)) (.cells #[.slice (some ⟨w.heap.size, 0, none⟩) 0 2] 92); simpa using h_))
  have g4 : (((w.alloc (.cells #[(.iface t1 x1), .nilIface] 26)).alloc (.cells #[.slice (some ⟨w.heap.size, 0, none⟩) 0 2] 92)).alloc (.cells #[(.iface t1 x1)] 26)).heap[g]? = some (.cells #[(.iface t1 x1), (.iface t2 x2)] 26 (0, 0)) := al_old (al_old (al_old (hg)))
  have a5 : (((w.alloc (.cells #[(.iface t1 x1), .nilIface] 26)).alloc (.cells #[.slice (some ⟨w.heap.size, 0, none⟩) 1 2] 92)).alloc (.cells #[(.iface t1 x1)] 26)).heap[w.heap.size]? = some (.cells #[(.iface t1 x1), .nilIface] 26 (0, 0)) := al_old (al_old (heap_new _ _))
  have j5 : (((w.alloc (.cells #[(.iface t1 x1), .nilIface] 26)).alloc (.cells #[.slice (some ⟨w.heap.size, 0, none⟩) 1 2] 92)).alloc (.cells #[(.iface t1 x1)] 26)).heap[w.heap.size + 1]? = some (.cells #[.slice (some ⟨w.heap.size, 0, none⟩) 1 2] 92 (0, 0)) := al_old ((by have h_ := heap_new (w.alloc (.cells #[(.iface t1 x1), .nilIface] 26)) (.cells #[.slice (some ⟨w.heap.size, 0, none⟩) 1 2] 92); simpa using h_))
  have g5 : (((w.alloc (.cells #[(.iface t1 x1), .nilIface] 26)).alloc (.cells #[.slice (some ⟨w.heap.size, 0, none⟩) 1 2] 92)).alloc (.cells #[(.iface t1 x1)] 26)).heap[g]? = some (.cells #[(.iface t1 x1), (.iface t2 x2)] 26 (0, 0)) := al_old (al_old (al_old (hg)))
  have a6 : ((((w.alloc (.cells #[(.iface t1 x1), .nilIface] 26)).alloc (.cells #[.slice (some ⟨w.heap.size, 0, none⟩) 1 2] 92)).alloc (.cells #[(.iface t1 x1)] 26)).alloc (.cells #[(.iface t2 x2)] 26)).heap[w.heap.size]? = some (.cells #[(.iface t1 x1), .nilIface] 26 (0, 0)) := al_old (al_old (al_old (heap_new _ _)))
  have j6 : ((((w.alloc (.cells #[(.iface t1 x1), .nilIface] 26)).alloc (.cells #[.slice (some ⟨w.heap.size, 0, none⟩) 1 2] 92)).alloc (.cells #[(.iface t1 x1)] 26)).alloc (.cells #[(.iface t2 x2)] 26)).heap[w.heap.size + 1]? = some (.cells #[.slice (some ⟨w.heap.size, 0, none⟩) 1 2] 92 (0, 0)) := al_old (al_old ((by have h_ := heap_new (w.alloc (.cells #[(.iface t1 x1), .nilIface] 26)) (.cells #[.slice (some ⟨w.heap.size, 0, none⟩) 1 2] 92); simpa using h_)))
  have g6 : ((((w.alloc (.cells #[(.iface t1 x1), .nilIface] 26)).alloc (.cells #[.slice (some ⟨w.heap.size, 0, none⟩) 1 2] 92)).alloc (.cells #[(.iface t1 x1)] 26)).alloc (.cells #[(.iface t2 x2)] 26)).heap[g]? = some (.cells #[(.iface t1 x1), (.iface t2 x2)] 26 (0, 0)) := al_old (al_old (al_old (al_old (hg))))
  have n6 : ((((w.alloc (.cells #[(.iface t1 x1), .nilIface] 26)).alloc (.cells #[.slice (some ⟨w.heap.size, 0, none⟩) 1 2] 92)).alloc (.cells #[(.iface t1 x1)] 26)).alloc (.cells #[(.iface t2 x2)] 26)).heap[w.heap.size + 1 + 1 + 1]? = some (.cells #[(.iface t2 x2)] 26 (0, 0)) := by have h_ := heap_new (((w.alloc (.cells #[(.iface t1 x1), .nilIface] 26)).alloc (.cells #[.slice (some ⟨w.heap.size, 0, none⟩) 1 2] 92)).alloc (.cells #[(.iface t1 x1)] 26)) (.cells #[(.iface t2 x2)] 26); simpa using h_
  have r2 := app_err ((((w.alloc (.cells #[(.iface t1 x1), .nilIface] 26)).alloc (.cells #[.slice (some ⟨w.heap.size, 0, none⟩) 1 2] 92)).alloc (.cells #[(.iface t1 x1)] 26)).alloc (.cells #[(.iface t2 x2)] 26)) 89 w.heap.size (w.heap.size + 1 + 1 + 1) 1 _ (.iface t2 x2) rfl a6 n6 (by omega) rfl
  have a7 : ((((w.alloc (.cells #[(.iface t1 x1), (.iface t2 x2)] 26)).alloc (.cells #[.slice (some ⟨w.heap.size, 0, none⟩) 1 2] 92)).alloc (.cells #[(.iface t1 x1)] 26)).alloc (.cells #[(.iface t2 x2)] 26)).heap[w.heap.size]? = some (.cells #[(.iface t1 x1), (.iface t2 x2)] 26 (0, 0)) := al_old (al_old (al_old (heap_new _ _)))
  have j7 : ((((w.alloc (.cells #[(.iface t1 x1), (.iface t2 x2)] 26)).alloc (.cells #[.slice (some ⟨w.heap.size, 0, none⟩) 1 2] 92)).alloc (.cells #[(.iface t1 x1)] 26)).alloc (.cells #[(.iface t2 x2)] 26)).heap[w.heap.size + 1]? = some (.cells #[.slice (some ⟨w.heap.size, 0, none⟩) 1 2] 92 (0, 0)) := al_old (al_old ((by have h_ := heap_new (w.alloc (.cells #[(.iface t1 x1), (.iface t2 x2)] 26)) (.cells #[.slice (some ⟨w.heap.size, 0, none⟩) 1 2] 92); simpa using h_)))
  have g7 : ((((w.alloc (.cells #[(.iface t1 x1), (.iface t2 x2)] 26)).alloc (.cells #[.slice (some ⟨w.heap.size, 0, none⟩) 1 2] 92)).alloc (.cells #[(.iface t1 x1)] 26)).alloc (.cells #[(.iface t2 x2)] 26)).heap[g]? = some (.cells #[(.iface t1 x1), (.iface t2 x2)] 26 (0, 0)) := al_old (al_old (al_old (al_old (hg))))
  have a8 : ((((w.alloc (.cells #[(.iface t1 x1), (.iface t2 x2)] 26)).alloc (.cells #[.slice (some ⟨w.heap.size, 0, none⟩) 2 2] 92)).alloc (.cells #[(.iface t1 x1)] 26)).alloc (.cells #[(.iface t2 x2)] 26)).heap[w.heap.size]? = some (.cells #[(.iface t1 x1), (.iface t2 x2)] 26 (0, 0)) := al_old (al_old (al_old (heap_new _ _)))
  have j8 : ((((w.alloc (.cells #[(.iface t1 x1), (.iface t2 x2)] 26)).alloc (.cells #[.slice (some ⟨w.heap.size, 0, none⟩) 2 2] 92)).alloc (.cells #[(.iface t1 x1)] 26)).alloc (.cells #[(.iface t2 x2)] 26)).heap[w.heap.size + 1]? = some (.cells #[.slice (some ⟨w.heap.size, 0, none⟩) 2 2] 92 (0, 0)) := al_old (al_old ((by have h_ := heap_new (w.alloc (.cells #[(.iface t1 x1), (.iface t2 x2)] 26)) (.cells #[.slice (some ⟨w.heap.size, 0, none⟩) 2 2] 92); simpa using h_)))
  have g8 : ((((w.alloc (.cells #[(.iface t1 x1), (.iface t2 x2)] 26)).alloc (.cells #[.slice (some ⟨w.heap.size, 0, none⟩) 2 2] 92)).alloc (.cells #[(.iface t1 x1)] 26)).alloc (.cells #[(.iface t2 x2)] 26)).heap[g]? = some (.cells #[(.iface t1 x1), (.iface t2 x2)] 26 (0, 0)) := al_old (al_old (al_old (al_old (hg))))
  have A8 := Asi.mk a8
  have J8 := Asi.mk j8
  have k2 := blk_cell g2 0
  have k3 := blk_cell j3 0
  have k4 := blk_cell j4 0
  have f4 := blk_frozen j4 0
  have k5 := blk_cell g5 1
  have k6 := blk_cell j6 0
  have k7 := blk_cell j7 0
  have f7 := blk_frozen j7 0
  have HB : Asi (Below w.heap.size w ((((w.alloc (.cells #[(.iface t1 x1), (.iface t2 x2)] 26)).alloc (.cells #[.slice (some ⟨w.heap.size, 0, none⟩) 2 2] 92)).alloc (.cells #[(.iface t1 x1)] 26)).alloc (.cells #[(.iface t2 x2)] 26))) := ⟨below_al (below_al (below_al (below_al (Below.refl _ _) (Nat.le_refl _) _) (by simp) _) (by simp; omega) _) (by simp; omega) _⟩
  clear hg hgl a2 j2 g2 a3 j3 g3 a4 j4 g4 a5 j5 g5 a6 j6 g6 a7 j7 g7 a8 j8 g8 n3 n6
  go_enter Tryd.func29, Tryd.ntmps29
  go_wp2
  refine wp_loop_rounds 3 ?_
  rw [rounds_succ]
  go_wp2
  rw [rounds_succ]
  go_wp2
  rw [rounds_succ]
  go_wp2
  refine wp_loop_rounds 3 ?_
  rw [rounds_succ]
  go_wp2
  rw [rounds_succ]
  go_wp2
  rw [rounds_succ]
  go_wp2
  go_ret
  exact ⟨rfl, J8.out, A8.out, HB.out⟩
end Go.Proofs.YtjmmagodjpmihaaDoor.KA
