/-
  dolmenlaw3's law FaultFinds: whatever the arguments, the call answers true, and each argument reads as it did; the card.
-/
import Derived.Test.YtjmmagodjpmihaaDoorKFinds
import Derived.Test.YtjmmagodjpmihaaDoorKCard
import Derived.Test.YtjmmagodjpmihaaDoorCards
import Derived.Test.YtjmmagodjpmihaaDoorTie
import Derived.SevenTiedAt
import Derived.ChangeOld
set_option linter.unusedVariables false
namespace Go.Proofs.YtjmmagodjpmihaaDoor.KA.faultFinds
open Go.ChangeShapes Go.WideShapes Go.ChangeAt Go.RowKit Go.Proofs.YtjmmagodjpmihaaDoor.KA
open Go.ChangeMaps (open_string shut_string)
set_option maxHeartbeats 1000000 in
set_option maxRecDepth 100000 in
theorem lifted (os : Os) (started : os.Started) (H : Type) (enc : TypeId × Value → H) :
    ReturnsInHanded {} Tryd.checked os 6 .any (fun w args => (Rows.faultFindsSpec.pre enc Tryd.prog Tryd.f6 [] false w args ∧ laidMetH Tryd.prog laidT w) ∧ sizedMet enc Tryd.prog Tryd.f6 (OpenSpec.ofChange Rows.faultFindsSpec) false w args)
      (Rows.faultFindsSpec.post enc Tryd.prog Tryd.f6 false true false false) := by
  refine returnsInHanded_of_change_and (C := Tryd.checked) (X := fun w _ => laidMetH Tryd.prog laidT w) (fun _ _ _ hh h => h.of_heap hh) own started (by kernel_rfl) Tryd.func6
    (ChangeSpec.witness_at (enc := enc) (C := Tryd.checked) (os := os) (X := fun w _ => laidMetH Tryd.prog laidT w) false (laidWorld os) #[.int .i64 0, .int .i64 0, .slice none 0 0, .string ByteArray.empty] 8 rfl (by kernel_rfl) (by kernel_rfl) (by kernel_rfl) (by kernel_rfl) (by kernel_rfl) (laidWorld_met os _)) ?_
  intro W base args ds gs before hval0 hW _ hsz0 hL _
  have hsz : (DataW.weightsEach Tryd.prog (Tryd.f6.params.toList ++ Rows.faultFindsSpec.plain.varTypes Tryd.prog) (ds ++ gs)).all (· ≤ reachBytes) = true := hsz0
  have hval : ∀ (j : Nat) t v, Tryd.f6.params[j]? = some t → args[j]? = some v → Value.okWide Tryd.prog W .any base t v := hval0
  have hW' := hW
  obtain ⟨p, q, hA0, hV, rfl, hfz, hnd⟩ := hW
  have hA : DataW.TrodAll enc Tryd.prog W 0 (fun _ => true) true Tryd.f6.params.toList args.toList ds p := hA0
  rw [Tryd.params6] at hA hval hsz
  obtain ⟨v0, vs0, d0, ds0, p0, q0, hargs, rfl, rfl, h0, r0⟩ := trodAll_cons hA
  obtain ⟨v1, vs1, d1, ds1, p1, q1, rfl, rfl, rfl, h1, r1⟩ := trodAll_cons r0
  obtain ⟨v2, vs2, d2, ds2, p2, q2, rfl, rfl, rfl, h2, r2⟩ := trodAll_cons r1
  obtain ⟨v3, vs3, d3, ds3, p3, q3, rfl, rfl, rfl, h3, r3⟩ := trodAll_cons r2
  obtain ⟨rfl, rfl, rfl⟩ := trodAll_nil r3
  obtain rfl : args = #[v0, v1, v2, v3] := by cases args; simp_all
  obtain ⟨rfl, rfl⟩ := trodVars_none hV
  obtain ⟨a0, rfl, rfl, rfl, w0⟩ := open_int Tryd.underlying3 (hval 0 3 v0 rfl rfl) h0
  obtain ⟨a1, rfl, rfl, rfl, w1⟩ := open_int Tryd.underlying3 (hval 1 3 v1 rfl rfl) h1
  have k2 := h2
  have lt2 : ∀ x ∈ p2, x.block < W.heap.size := by obtain ⟨m, hm⟩ := k2; exact DataW.trod_lt m _ _ _ hm
  obtain ⟨A2, len2, cap2, rfl⟩ := okWide_slice Tryd.underlying43 (hval 2 43 v2 rfl rfl)
  obtain ⟨l2, rfl, hr2⟩ := arow_bool Tryd.underlying43 (by kernel_rfl) Tryd.underlying4 h2
  obtain ⟨a3, rfl, rfl, rfl, y3⟩ := open_string Tryd.underlying9 (hval 3 9 v3 rfl rfl) h3
  clear hA0 hval0 hsz0 hsz
  refine (KA.finds a0 a1 A2 cap2 l2 _ rfl a3 W hr2 (handle_of_laid hL)).mono ?_
  rintro e W' ⟨rfl, bel⟩
  exact ⟨_, rfl, _, _, _, [], _, [], hW', trodAll_mk1 (shut_bool Tryd.underlying4 _), (trodAll_cons_mk (shut_int Tryd.underlying3 w0) (trodAll_cons_mk (shut_int Tryd.underlying3 w1) (trodAll_cons_mk (Below.trod laidOut (by kernel_rfl) (of_decide_eq_true (by kernel_rfl)) k2 bel lt2) (trodAll_cons_mk (shut_string Tryd.underlying9 y3) trodAll_mk0)))), rfl, bel.frame _, fun h => by cases h⟩
theorem over : Rows.FaultFindsSaid :=
  OpenClaim.holds_of_wide 6 Tryd.f6 rfl rfl rfl rfl rfl rfl rfl ⟨rfl, rfl, rfl, rfl, rfl⟩ rfl rfl rfl rfl rfl (by kernel_rfl) Tryd.func6 (by kernel_rfl)
    (of_decide_eq_true (by kernel_rfl)) (by unfold Func.isWrapper; rw [if_neg (of_decide_eq_false (by kernel_rfl))]; exact ⟨rfl, rfl⟩)
    (fun os started H enc _ => lifted os started H enc)
end Go.Proofs.YtjmmagodjpmihaaDoor.KA.faultFinds
namespace Go.Proofs.YtjmmagodjpmihaaDoor
open Go
theorem faultFinds_holds : Rows.FaultFindsCardSaid :=
  Claim7.holds_tied_plain_at .later [] [.handle] true (true, "4cda845f7a88830122cfb726b6a4ba1585e72c54ae382f50db83135bebbaa9df") true
    KA.faultFinds.over (fun _ h => by cases h) (by kernel_rfl) (fun _ h => by cases h) faultFinds_row_tie rfl ⟨rfl, rfl⟩ (by kernel_rfl) rfl
    (fun f fn hf hfn => by
      obtain rfl : f = 6 := Option.some.inj ((show Tryd.prog.funcNamed "dolmen/dolmenlaw3.FaultFinds" = some 6 by kernel_rfl).symm.trans hf) |>.symm
      obtain rfl : fn = Tryd.f6 := (Option.some.inj (Tryd.func6.symm.trans hfn)).symm
      exact ⟨by kernel_rfl, fun j t ht => by
        rw [Tryd.params6] at ht
        have hall : ∀ j : Nat, ∀ t, (#[3, 3, 43, 9] : Array TypeId)[j]? = some t → Tryd.prog.wantsStandIn t = false := by
          intro j t h
          rcases j with _ | j
          · obtain rfl : 3 = t := by simpa using h
            exact (show Tryd.prog.wantsStandIn 3 = false by kernel_rfl)
          rcases j with _ | j
          · obtain rfl : 3 = t := by simpa using h
            exact (show Tryd.prog.wantsStandIn 3 = false by kernel_rfl)
          rcases j with _ | j
          · obtain rfl : 43 = t := by simpa using h
            exact (show Tryd.prog.wantsStandIn 43 = false by kernel_rfl)
          rcases j with _ | j
          · obtain rfl : 9 = t := by simpa using h
            exact (show Tryd.prog.wantsStandIn 9 = false by kernel_rfl)
          simp at h
        exact hall j t ht⟩)
    (by kernel_rfl)
#print axioms faultFinds_holds
end Go.Proofs.YtjmmagodjpmihaaDoor
