/-
  The shelf's contracts on slices.Sorted and maps.Keys at this program, in plain words (printed by the kit's own tools), and as plain calls.
-/
import Derived.Shelf.SlIter.Nil
import Derived.Shelf.SortM.Plain
import Derived.Shelf.SortM.SortNone
import Derived.Ground.GgzProg
import Derived.Ground.SlgmProg
import Derived.Test.YtacdocchcfbgcaaProg
namespace Go.Proofs
open Go.RowKit Go.Maps Go.Sort Go.Shelf
def Try.keys57_ren : Go.Shelf.Ren := ⟨fun | 7 => 57 | 10 => 69 | n => n, fun | 23 => 94 | 26 => 9 | 3 => 3 | 28 => 97 | 0 => 0 | 27 => 96 | 33 => 110 | 4 => 4 | n => n, fun | n => n⟩
theorem Try.keys57 : Go.Proofs.SlLaysZ.n7 Try.prog Try.keys57_ren := {
  mixed := by kernel_rfl
  f7 := ⟨Try.f57.name, by decide, Try.func57.trans (congrArg some (by kernel_rfl))⟩
  f10 := ⟨Try.f69.name, by decide, Try.func69.trans (congrArg some (by kernel_rfl))⟩
  t0 := Try.underlying0
  a0 := Try.isAgg0
  z0 := Try.sizeOf0
  v0 := Try.zeroValue0
  t4 := Try.underlying4
  a4 := Try.isAgg4
  z4 := Try.sizeOf4
  v4 := Try.zeroValue4
  t23 := Try.underlying94
  a23 := Try.isAgg94
  z23 := Try.sizeOf94
  v23 := Try.zeroValue94
  t26 := Try.underlying9
  a26 := Try.isAgg9
  z26 := Try.sizeOf9
  v26 := Try.zeroValue9
  t27 := Try.underlying96
  a27 := Try.isAgg96
  z27 := Try.sizeOf96
  v27 := Try.zeroValue96
  t28 := Try.underlying97
  a28 := Try.isAgg97
  z28 := Try.sizeOf97
  v28 := Try.zeroValue97
  t33 := Try.underlying110
  a33 := Try.isAgg110
  z33 := Try.sizeOf110
  v33 := Try.zeroValue110 }
def Try.sorted56_ren : Go.Shelf.Ren := ⟨fun | 6 => 56 | 8 => 67 | 9 => 68 | 11 => 71 | 13 => 73 | 12 => 72 | 23 => 83 | 24 => 84 | 14 => 74 | 15 => 75 | 16 => 76 | 17 => 77 | 18 => 78 | 19 => 79 | 20 => 80 | 21 => 81 | 22 => 82 | 25 => 85 | 26 => 86 | 27 => 87 | 28 => 88 | 29 => 89 | 30 => 90 | 31 => 91 | n => n, fun | 26 => 9 | 28 => 97 | 24 => 67 | 0 => 0 | 3 => 3 | 37 => 126 | 48 => 137 | 50 => 139 | 4 => 4 | 40 => 129 | 39 => 128 | 45 => 134 | 5 => 5 | 9 => 9 | 51 => 140 | 55 => 144 | 57 => 146 | 58 => 41 | 33 => 110 | n => n, fun | n => n⟩
theorem Try.sorted56 : Go.Proofs.SlLaysZ.n6 Try.prog Try.sorted56_ren := {
  mixed := by kernel_rfl
  f6 := ⟨Try.f56.name, by decide, Try.func56.trans (congrArg some (by kernel_rfl))⟩
  f8 := ⟨Try.f67.name, by decide, Try.func67.trans (congrArg some (by kernel_rfl))⟩
  f11 := ⟨Try.f71.name, by decide, Try.func71.trans (congrArg some (by kernel_rfl))⟩
  t0 := Try.underlying0
  a0 := Try.isAgg0
  z0 := Try.sizeOf0
  v0 := Try.zeroValue0
  t24 := Try.underlying67
  a24 := Try.isAgg67
  z24 := Try.sizeOf67
  v24 := Try.zeroValue67
  t26 := Try.underlying9
  a26 := Try.isAgg9
  z26 := Try.sizeOf9
  v26 := Try.zeroValue9
  t28 := Try.underlying97
  a28 := Try.isAgg97
  z28 := Try.sizeOf97
  v28 := Try.zeroValue97
  i26 := by kernel_rfl }
def Try.sort68_ren : Go.Shelf.Ren := ⟨fun | 6 => 68 | 8 => 73 | 9 => 72 | 19 => 83 | 20 => 84 | 21 => 74 | 22 => 75 | 23 => 76 | 24 => 77 | 25 => 78 | 26 => 79 | 27 => 80 | 28 => 81 | 29 => 82 | 36 => 85 | 31 => 86 | 32 => 87 | 37 => 88 | 38 => 89 | 39 => 90 | 41 => 91 | n => n, fun | 27 => 67 | 29 => 9 | 3 => 3 | 32 => 126 | 26 => 67 | 0 => 0 | 44 => 137 | 46 => 139 | 4 => 4 | 36 => 129 | 35 => 128 | 41 => 134 | 5 => 5 | 9 => 9 | 53 => 140 | 57 => 144 | 63 => 146 | 64 => 41 | n => n, fun | n => n⟩
theorem Try.sort68 : Go.Proofs.SlLaysM.n6 Try.prog Try.sort68_ren := {
  mixed := by kernel_rfl
  f6 := ⟨Try.f68.name, by decide, Try.func68.trans (congrArg some (by kernel_rfl))⟩
  f8 := Try.func73.trans (congrArg some (by kernel_rfl))
  f9 := ⟨Try.f72.name, by decide, Try.func72.trans (congrArg some (by kernel_rfl))⟩
  f19 := Try.func83.trans (congrArg some (by kernel_rfl))
  f20 := Try.func84.trans (congrArg some (by kernel_rfl))
  f21 := ⟨Try.f74.name, by decide, Try.func74.trans (congrArg some (by kernel_rfl))⟩
  f22 := ⟨Try.f75.name, by decide, Try.func75.trans (congrArg some (by kernel_rfl))⟩
  f23 := ⟨Try.f76.name, by decide, Try.func76.trans (congrArg some (by kernel_rfl))⟩
  f24 := ⟨Try.f77.name, by decide, Try.func77.trans (congrArg some (by kernel_rfl))⟩
  f25 := ⟨Try.f78.name, by decide, Try.func78.trans (congrArg some (by kernel_rfl))⟩
  f26 := ⟨Try.f79.name, by decide, Try.func79.trans (congrArg some (by kernel_rfl))⟩
  f27 := ⟨Try.f80.name, by decide, Try.func80.trans (congrArg some (by kernel_rfl))⟩
  f28 := ⟨Try.f81.name, by decide, Try.func81.trans (congrArg some (by kernel_rfl))⟩
  f29 := ⟨Try.f82.name, by decide, Try.func82.trans (congrArg some (by kernel_rfl))⟩
  f31 := Try.func86.trans (congrArg some (by kernel_rfl))
  f32 := Try.func87.trans (congrArg some (by kernel_rfl))
  f36 := ⟨Try.f85.name, by decide, Try.func85.trans (congrArg some (by kernel_rfl))⟩
  f37 := ⟨Try.f88.name, by decide, Try.func88.trans (congrArg some (by kernel_rfl))⟩
  f38 := ⟨Try.f89.name, by decide, Try.func89.trans (congrArg some (by kernel_rfl))⟩
  f39 := ⟨Try.f90.name, by decide, Try.func90.trans (congrArg some (by kernel_rfl))⟩
  f41 := ⟨Try.f91.name, by decide, Try.func91.trans (congrArg some (by kernel_rfl))⟩
  t0 := Try.underlying0
  a0 := Try.isAgg0
  z0 := Try.sizeOf0
  v0 := Try.zeroValue0
  t3 := Try.underlying3
  a3 := Try.isAgg3
  z3 := Try.sizeOf3
  v3 := Try.zeroValue3
  t4 := Try.underlying4
  a4 := Try.isAgg4
  z4 := Try.sizeOf4
  v4 := Try.zeroValue4
  t5 := Try.underlying5
  a5 := Try.isAgg5
  z5 := Try.sizeOf5
  v5 := Try.zeroValue5
  t9 := Try.underlying9
  a9 := Try.isAgg9
  z9 := Try.sizeOf9
  v9 := Try.zeroValue9
  t26 := Try.underlying67
  a26 := Try.isAgg67
  z26 := Try.sizeOf67
  v26 := Try.zeroValue67
  t27 := Try.underlying67
  a27 := Try.isAgg67
  z27 := Try.sizeOf67
  v27 := Try.zeroValue67
  t29 := Try.underlying9
  a29 := Try.isAgg9
  z29 := Try.sizeOf9
  v29 := Try.zeroValue9
  t32 := Try.underlying126
  a32 := Try.isAgg126
  z32 := Try.sizeOf126
  v32 := Try.zeroValue126
  t35 := Try.underlying128
  a35 := Try.isAgg128
  z35 := Try.sizeOf128
  v35 := Try.zeroValue128
  t36 := Try.underlying129
  a36 := Try.isAgg129
  z36 := Try.sizeOf129
  v36 := Try.zeroValue129
  t41 := Try.underlying134
  a41 := Try.isAgg134
  z41 := Try.sizeOf134
  v41 := Try.zeroValue134
  t44 := Try.underlying137
  a44 := Try.isAgg137
  z44 := Try.sizeOf137
  v44 := Try.zeroValue137
  t46 := Try.underlying139
  a46 := Try.isAgg139
  z46 := Try.sizeOf139
  v46 := Try.zeroValue139
  t53 := Try.underlying140
  a53 := Try.isAgg140
  z53 := Try.sizeOf140
  v53 := Try.zeroValue140
  t57 := Try.underlying144
  a57 := Try.isAgg144
  z57 := Try.sizeOf144
  v57 := Try.zeroValue144
  t63 := Try.underlying146
  a63 := Try.isAgg146
  z63 := Try.sizeOf146
  v63 := Try.zeroValue146
  t64 := Try.underlying41
  a64 := Try.isAgg41
  z64 := Try.sizeOf41
  v64 := Try.zeroValue41 }


theorem Try.sorts56 (m : Nat) : AnyZ.SortsIn Try.prog Try.sorted56_ren Fence.wide m :=
  ⟨fun blk off cap ss W hH hblk hsz => callsIn_wide.2 (AnyM.slices_Sort_string Try.sort68 blk off cap ss W hH hblk hsz),
   fun p cap W => callsIn_wide.2 (AnyM.slices_Sort_string_none Try.sort68 p cap W)⟩

theorem Try.maps_Keys_57 (mb : Option Nat) (W : World) : CallsIn Fence.wide 5 Try.prog 57 #[.map mb] W fun e w' => e = .returned (.func (.func 69) #[] #[.pointer (some ⟨W.heap.size, 0, none⟩)]) ∧ w' = W.alloc (.cells #[.map mb] 94) :=
  AnyZ.keys_in Try.keys57 Fence.wide 5 trivial rfl mb W

set_option maxHeartbeats 1000000 in
theorem Try.slices_Sorted_keys_56_57 {H : Type} (b nn : Nat) (D0 : DataW H) (R : Value → Option (DataW H × List MemPlace)) (w : World) (hown : w.ownsMap Try.prog 9 R b nn D0) (hmax : Maps.size D0 ≤ maxLen) (hbytes : Maps.size D0 * 16 ≤ 140737488355328) :
    CallsIn Fence.wide 5 Try.prog 56 #[.func (.func 69) #[] #[.pointer (some ⟨w.heap.size, 0, none⟩)]] (w.alloc (.cells #[.map (some b)] 94)) fun e w' => ∃ (v : Value) (ss : List (List UInt8)), e = .returned v ∧ ss.Perm (strKeys D0) ∧
      w'.ownsRow (w.alloc (.cells #[.map (some b)] 94)).heap.size 9 1 v ss.length ((ss.mergeSort (fun x y => decide (x ≤ y))).map encStr) ∧ (v = .slice none 0 0 ↔ ss = []) ∧ Below (w.alloc (.cells #[.map (some b)] 94)).heap.size (w.alloc (.cells #[.map (some b)] 94)) w' := by
  have hbl := hown.lt
  have hseq : SeqGives Fence.wide 2 Try.prog 69 #[.pointer (some ⟨w.heap.size, 0, none⟩)] encStr (fun ss => ss.Perm (strKeys D0)) (Maps.size D0) (w.alloc (.cells #[.map (some b)] 94)) :=
    AnyZ.keys_gives (ρ := Try.keys57_ren) { Try.keys57 with } Fence.wide _ trivial rfl (by omega) w.heap.size b nn D0 _ (by simp) (by simp) (by
      obtain ⟨es, clock, hb, Ft, hs, hD⟩ := hown
      exact ⟨es, clock, (Below.heap_alloc _ _ b hbl).trans hb, Ft, hs, hD⟩)
  exact AnyZ.sorted_in Try.sorted56 Fence.wide 5 trivial trivial trivial trivial rfl (by omega) (Try.sorts56 _) (enters_of Try.func68 (by kernel_rfl) rfl) 69 #[.pointer (some ⟨w.heap.size, 0, none⟩)] trivial (enters_of Try.func69 (by kernel_rfl) rfl) _ _ hmax hbytes _ hseq

set_option maxHeartbeats 1000000 in
theorem Try.slices_Sorted_keys_nil_56_57 (w : World) :
    CallsIn Fence.wide 5 Try.prog 56 #[.func (.func 69) #[] #[.pointer (some ⟨w.heap.size, 0, none⟩)]] (w.alloc (.cells #[.map none] 94)) fun e w' => ∃ (v : Value) (ss : List (List UInt8)), e = .returned v ∧ ss = [] ∧
      w'.ownsRow (w.alloc (.cells #[.map none] 94)).heap.size 9 1 v ss.length ((ss.mergeSort (fun x y => decide (x ≤ y))).map encStr) ∧ (v = .slice none 0 0 ↔ ss = []) ∧ Below (w.alloc (.cells #[.map none] 94)).heap.size (w.alloc (.cells #[.map none] 94)) w' := by
  have hseq : SeqGives Fence.wide 2 Try.prog 69 #[.pointer (some ⟨w.heap.size, 0, none⟩)] encStr (fun ss : List (List UInt8) => ss = []) 0 (w.alloc (.cells #[.map none] 94)) :=
    AnyZ.keys_gives_nil (ρ := Try.keys57_ren) { Try.keys57 with } Fence.wide _ trivial rfl w.heap.size _ (by simp) (by simp)
  exact AnyZ.sorted_in Try.sorted56 Fence.wide 5 trivial trivial trivial trivial rfl (by omega) (Try.sorts56 _) (enters_of Try.func68 (by kernel_rfl) rfl) 69 #[.pointer (some ⟨w.heap.size, 0, none⟩)] trivial (enters_of Try.func69 (by kernel_rfl) rfl) _ 0 (Nat.zero_le _) (by omega) _ hseq



theorem Try.Keys_calls (mb : Option Nat) (W : World) : Calls Try.prog 57 #[.map mb] W fun e w' => e = .returned (.func (.func 69) #[] #[.pointer (some ⟨W.heap.size, 0, none⟩)]) ∧ w' = W.alloc (.cells #[.map mb] 94) := (callsIn_wide (n := 5)).1 (Try.maps_Keys_57 mb W)
theorem Try.SortedKeys_calls {H : Type} (b nn : Nat) (D0 : DataW H) (R : Value → Option (DataW H × List MemPlace)) (w : World) (hown : w.ownsMap Try.prog 9 R b nn D0) (hmax : Maps.size D0 ≤ maxLen) (hbytes : Maps.size D0 * 16 ≤ 140737488355328) :
    Calls Try.prog 56 #[.func (.func 69) #[] #[.pointer (some ⟨w.heap.size, 0, none⟩)]] (w.alloc (.cells #[.map (some b)] 94)) fun e w' => ∃ (v : Value) (ss : List (List UInt8)), e = .returned v ∧ ss.Perm (strKeys D0) ∧
      w'.ownsRow (w.alloc (.cells #[.map (some b)] 94)).heap.size 9 1 v ss.length ((ss.mergeSort (fun x y => decide (x ≤ y))).map encStr) ∧ (v = .slice none 0 0 ↔ ss = []) ∧ Below (w.alloc (.cells #[.map (some b)] 94)).heap.size (w.alloc (.cells #[.map (some b)] 94)) w' := (callsIn_wide (n := 5)).1 (Try.slices_Sorted_keys_56_57 b nn D0 R w hown hmax hbytes)
end Go.Proofs
