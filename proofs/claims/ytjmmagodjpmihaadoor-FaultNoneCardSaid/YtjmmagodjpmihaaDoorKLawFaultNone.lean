/-
  dolmenlaw3's law FaultNone: whatever the arguments, the call answers true, and each argument reads as it did; the card.
-/
import Derived.Test.YtjmmagodjpmihaaDoorKNone
import Derived.Test.YtjmmagodjpmihaaDoorKCard
import Derived.Test.YtjmmagodjpmihaaDoorCards
import Derived.Test.YtjmmagodjpmihaaDoorTie
import Derived.SevenTiedAt
import Derived.ChangeOld
set_option linter.unusedVariables false
namespace Go.Proofs.YtjmmagodjpmihaaDoor.KA.faultNone
open Go.ChangeShapes Go.WideShapes Go.ChangeAt Go.RowKit Go.Proofs.YtjmmagodjpmihaaDoor.KA
open Go.ChangeMaps (open_string shut_string)
set_option maxHeartbeats 1000000 in
set_option maxRecDepth 100000 in
theorem lifted (os : Os) (started : os.Started) (H : Type) (enc : TypeId × Value → H) :
    ReturnsInHanded {} Tryd.checked os 9 .any (fun w args => (Rows.faultNoneSpec.pre enc Tryd.prog Tryd.f9 [] false w args ∧ laidMetH Tryd.prog laidT w) ∧ sizedMet enc Tryd.prog Tryd.f9 (OpenSpec.ofChange Rows.faultNoneSpec) false w args)
      (Rows.faultNoneSpec.post enc Tryd.prog Tryd.f9 false true false false) := by
  refine returnsInHanded_of_change_and (C := Tryd.checked) (X := fun w _ => laidMetH Tryd.prog laidT w) (fun _ _ _ hh h => h.of_heap hh) own started (by kernel_rfl) Tryd.func9
    (ChangeSpec.witness_at (enc := enc) (C := Tryd.checked) (os := os) (X := fun w _ => laidMetH Tryd.prog laidT w) false (laidWorld os) #[.slice none 0 0, .string ByteArray.empty] 8 rfl (by kernel_rfl) (by kernel_rfl) (by kernel_rfl) (by kernel_rfl) (by kernel_rfl) (laidWorld_met os _)) ?_
  intro W base args ds gs before hval0 hW _ hsz0 hL _
  have hsz : (DataW.weightsEach Tryd.prog (Tryd.f9.params.toList ++ Rows.faultNoneSpec.plain.varTypes Tryd.prog) (ds ++ gs)).all (· ≤ reachBytes) = true := hsz0
  have hval : ∀ (j : Nat) t v, Tryd.f9.params[j]? = some t → args[j]? = some v → Value.okWide Tryd.prog W .any base t v := hval0
  have hW' := hW
  obtain ⟨p, q, hA0, hV, rfl, hfz, hnd⟩ := hW
  have hA : DataW.TrodAll enc Tryd.prog W 0 (fun _ => true) true Tryd.f9.params.toList args.toList ds p := hA0
  rw [Tryd.params9] at hA hval hsz
  obtain ⟨v0, vs0, d0, ds0, p0, q0, hargs, rfl, rfl, h0, r0⟩ := trodAll_cons hA
  obtain ⟨v1, vs1, d1, ds1, p1, q1, rfl, rfl, rfl, h1, r1⟩ := trodAll_cons r0
  obtain ⟨rfl, rfl, rfl⟩ := trodAll_nil r1
  obtain rfl : args = #[v0, v1] := by cases args; simp_all
  obtain ⟨rfl, rfl⟩ := trodVars_none hV
  have k0 := h0
  have lt0 : ∀ x ∈ p0, x.block < W.heap.size := by obtain ⟨m, hm⟩ := k0; exact DataW.trod_lt m _ _ _ hm
  obtain ⟨A0, len0, cap0, rfl⟩ := okWide_slice Tryd.underlying43 (hval 0 43 v0 rfl rfl)
  obtain ⟨l0, rfl, hr0⟩ := arow_bool Tryd.underlying43 (by kernel_rfl) Tryd.underlying4 h0
  obtain ⟨a1, rfl, rfl, rfl, y1⟩ := open_string Tryd.underlying9 (hval 1 9 v1 rfl rfl) h1
  clear hA0 hval0 hsz0 hsz
  refine (KA.noneL A0 cap0 l0 _ rfl a1 W hr0 (handle_of_laid hL)).mono ?_
  rintro e W' ⟨rfl, bel⟩
  exact ⟨_, rfl, _, _, _, [], _, [], hW', trodAll_mk1 (shut_bool Tryd.underlying4 _), (trodAll_cons_mk (Below.trod laidOut (by kernel_rfl) (of_decide_eq_true (by kernel_rfl)) k0 bel lt0) (trodAll_cons_mk (shut_string Tryd.underlying9 y1) trodAll_mk0)), rfl, bel.frame _, fun h => by cases h⟩
theorem over : Rows.FaultNoneSaid :=
  OpenClaim.holds_of_wide 9 Tryd.f9 rfl rfl rfl rfl rfl rfl rfl ⟨rfl, rfl, rfl, rfl, rfl⟩ rfl rfl rfl rfl rfl (by kernel_rfl) Tryd.func9 (by kernel_rfl)
    (of_decide_eq_true (by kernel_rfl)) (by unfold Func.isWrapper; rw [if_neg (of_decide_eq_false (by kernel_rfl))]; exact ⟨rfl, rfl⟩)
    (fun os started H enc _ => lifted os started H enc)
end Go.Proofs.YtjmmagodjpmihaaDoor.KA.faultNone
namespace Go.Proofs.YtjmmagodjpmihaaDoor
open Go
theorem faultNone_holds : Rows.FaultNoneCardSaid :=
  Claim7.holds_tied_plain_at .later [] [.handle] true (true, "4cda845f7a88830122cfb726b6a4ba1585e72c54ae382f50db83135bebbaa9df") true
    KA.faultNone.over (fun _ h => by cases h) (by kernel_rfl) (fun _ h => by cases h) faultNone_row_tie rfl ⟨rfl, rfl⟩ (by kernel_rfl) rfl
    (fun f fn hf hfn => by
      obtain rfl : f = 9 := Option.some.inj ((show Tryd.prog.funcNamed "dolmen/dolmenlaw3.FaultNone" = some 9 by kernel_rfl).symm.trans hf) |>.symm
      obtain rfl : fn = Tryd.f9 := (Option.some.inj (Tryd.func9.symm.trans hfn)).symm
      exact ⟨by kernel_rfl, fun j t ht => by
        rw [Tryd.params9] at ht
        have hall : ∀ j : Nat, ∀ t, (#[43, 9] : Array TypeId)[j]? = some t → Tryd.prog.wantsStandIn t = false := by
          intro j t h
          rcases j with _ | j
          · obtain rfl : 43 = t := by simpa using h
            exact (show Tryd.prog.wantsStandIn 43 = false by kernel_rfl)
          rcases j with _ | j
          · obtain rfl : 9 = t := by simpa using h
            exact (show Tryd.prog.wantsStandIn 9 = false by kernel_rfl)
          simp at h
        exact hall j t ht⟩)
    (by kernel_rfl)
#print axioms faultNone_holds
end Go.Proofs.YtjmmagodjpmihaaDoor
