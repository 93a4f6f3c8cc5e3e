/-
  FoldChanges, the plain law: what makes bytes from others is told as the document says, and makes them.
-/
import Derived.Test.YtacdocchcfbgcaaOFoldChanges
import Derived.Test.YtacdocchcfbgcaaGPFold
import Derived.Lib.Bytes
set_option linter.unusedVariables false
set_option linter.unusedSimpArgs false
namespace Go.Proofs.Ytacdocchcfbgcaa.Pure
open Go.RowKit Go.Proofs.Ytacdocchcfbgcaa.Q Go.Proofs.Ytacdocchcfbgcaa.PC Go.Proofs.Ytacdocchcfbgcaa.PB Go.Proofs.YtacdocchcfbgcaaW.PrintWords Go.Proofs.YtacdocchcfbgcaaW.PrintLast Go.Proofs.YtacdocchcfbgcaaW.PrintMore

/-! ### strings -/
def isB (l : List Int) : Prop := ∀ x ∈ l, 0 ≤ x ∧ x ≤ 255
theorem byte_inj {x y : Int} (hx : 0 ≤ x ∧ x ≤ 255) (hy : 0 ≤ y ∧ y ≤ 255) (h : UInt8.ofNat x.toNat = UInt8.ofNat y.toNat) : x = y := by
  have h1 := congrArg UInt8.toNat h
  rw [UInt8.toNat_ofNat', UInt8.toNat_ofNat'] at h1
  omega
theorem bytes_inj : ∀ {a b : List Int}, isB a → isB b → (a.map fun n => UInt8.ofNat n.toNat) = (b.map fun n => UInt8.ofNat n.toNat) → a = b
  | [], [], _, _, _ => rfl
  | [], y :: b, _, _, h => by simp at h
  | x :: a, [], _, _, h => by simp at h
  | x :: a, y :: b, ha, hb, h => by
    rw [List.map_cons, List.map_cons] at h
    injection h with h1 h2
    rw [byte_inj (ha x List.mem_cons_self) (hb y List.mem_cons_self) h1, bytes_inj (fun z hz => ha z (List.mem_cons_of_mem _ hz)) (fun z hz => hb z (List.mem_cons_of_mem _ hz)) h2]
theorem str_inj {a b : List Int} (ha : isB a) (hb : isB b) (h : (strOfNums a).toList = (strOfNums b).toList) : a = b := by
  rw [Go.Lib.strOfNums_toList, Go.Lib.strOfNums_toList] at h
  exact bytes_inj ha hb h

/-! ### what differs -/
theorem chC_sized (o d : List Int) : chC o d = sizedL o d.length := by
  unfold chC sizedL
  rw [List.drop_replicate]
  rcases Nat.le_total o.length d.length with h | h
  · rw [Nat.min_eq_left h, List.take_of_length_le (Nat.le_refl _), List.take_of_length_le h]
  · rw [Nat.min_eq_right h, Nat.sub_self, Nat.sub_eq_zero_of_le h]
/-- No place differs ahead of i. -/
def eqTo (c d : List Int) (i : Nat) : Prop := ∀ j, j < i → rd c (j : Int) = rd d (j : Int)
theorem chS_none (c d : List Int) : ∀ i, eqTo c d i → chS c d i = (-1, -1)
  | 0, _ => rfl
  | i + 1, h => by
    unfold chS
    rw [if_pos (h i (by omega)), chS_none c d i (fun j hj => h j (by omega))]
theorem chS_some (c d : List Int) (F G : Nat) (hF : eqTo c d F) (hFd : rd c (F : Int) ≠ rd d (F : Int)) (hGd : rd c (G : Int) ≠ rd d (G : Int)) (hFG : F ≤ G) :
    ∀ i, F < i → (∀ j, G < j → j < i → rd c (j : Int) = rd d (j : Int)) → (chS c d i).1 = (F : Int) ∧ (G < i → (chS c d i).2 = (G : Int))
  | 0, h, _ => by omega
  | i + 1, h, hG => by
    unfold chS
    by_cases hi : i = F
    · subst hi
      rw [if_neg hFd, chS_none c d i hF]
      exact ⟨by simp, fun hg => by simp; omega⟩
    · obtain ⟨h1, h2⟩ := chS_some c d F G hF hFd hGd hFG i (by omega) (fun j h3 h4 => hG j h3 (by omega))
      by_cases he : rd c (i : Int) = rd d (i : Int)
      · rw [if_pos he]
        refine ⟨h1, fun hg => h2 ?_⟩
        rcases Nat.lt_or_ge G i with h3 | h3
        · exact h3
        · have : G = i := by omega
          subst this
          exact absurd he hGd
      · rw [if_neg he]
        refine ⟨by rw [if_neg (by omega)]; exact h1, fun hg => ?_⟩
        rcases Nat.lt_or_ge G i with h3 | h3
        · exact absurd (hG i h3 (by omega)) he
        · show (i : Int) = (G : Int)
          omega
/-- Either nothing differs, or there is a first place and a last. -/
theorem diff_cases (c d : List Int) : ∀ n, eqTo c d n ∨ ∃ F G, F ≤ G ∧ G < n ∧ eqTo c d F ∧ rd c (F : Int) ≠ rd d (F : Int) ∧ rd c (G : Int) ≠ rd d (G : Int) ∧ ∀ j, G < j → j < n → rd c (j : Int) = rd d (j : Int)
  | 0 => .inl fun j hj => by omega
  | n + 1 => by
    by_cases he : rd c (n : Int) = rd d (n : Int)
    · rcases diff_cases c d n with h | ⟨F, G, h1, h2, h3, h4, h5, h6⟩
      · refine .inl fun j hj => ?_
        rcases Nat.lt_or_ge j n with h7 | h7
        · exact h j h7
        · obtain rfl : j = n := by omega
          exact he
      · refine .inr ⟨F, G, h1, by omega, h3, h4, h5, fun j h7 h8 => ?_⟩
        rcases Nat.lt_or_ge j n with h9 | h9
        · exact h6 j h7 h9
        · obtain rfl : j = n := by omega
          exact he
    · rcases diff_cases c d n with h | ⟨F, G, h1, h2, h3, h4, h5, h6⟩
      · exact .inr ⟨n, n, Nat.le_refl _, by omega, h, he, he, fun j h7 h8 => by omega⟩
      · exact .inr ⟨F, n, by omega, by omega, h3, h4, he, fun j h7 h8 => by omega⟩
theorem rd_ext {c d : List Int} (hl : c.length = d.length) (h : eqTo c d d.length) : c = d := by
  apply List.ext_getElem hl
  intro i h1 h2
  have := h i h2
  rw [rd_nat h1, rd_nat h2] at this
  exact this
theorem putL_ext {c d : List Int} {F G : Nat} (hl : c.length = d.length) (hFG : F ≤ G) (hG : G < d.length) (hF : eqTo c d F) (hR : ∀ j, G < j → j < d.length → rd c (j : Int) = rd d (j : Int)) :
    putL c ((d.take (G + 1)).drop F) F = d := by
  have hyl : ((d.take (G + 1)).drop F).length = G + 1 - F := by rw [List.length_drop, List.length_take]; omega
  have hpl := putL_length c ((d.take (G + 1)).drop F) F (by rw [hyl]; omega)
  unfold putL at hpl ⊢
  apply List.ext_getElem (by rw [hpl, hl])
  intro i h1 h2
  have hlf : (c.take F).length = F := by rw [List.length_take]; omega
  have hl2 : (c.take F ++ (d.take (G + 1)).drop F).length = F + (G + 1 - F) := by rw [List.length_append, hlf, hyl]
  rw [List.getElem_append]
  by_cases h3 : i < (c.take F ++ (d.take (G + 1)).drop F).length
  · rw [dif_pos h3, List.getElem_append]
    by_cases h4 : i < (c.take F).length
    · rw [dif_pos h4, List.getElem_take]
      have := hF i (by omega)
      rw [rd_nat (by omega), rd_nat h2] at this
      exact this
    · rw [dif_neg h4, List.getElem_drop, List.getElem_take]
      congr 1
      omega
  · rw [dif_neg h3, List.getElem_drop]
    have := hR i (by omega) h2
    rw [rd_nat (by omega), rd_nat h2] at this
    rw [← this]
    congr 1
    omega

/-! ### the program's Change -/
def xL (o d : List Int) (ep : Int) : List S50 := (chL o d ep).map toE
theorem change_l1 (c d : List Int) (ep : Int) (out : List S50) (ho : out.length ≤ 1) (hl : c.length = d.length) (hd : d.length ≤ 2000) (F G : Nat) (hFG : F ≤ G) (hG : G < d.length) (hGd : rd c (G : Int) ≠ rd d (G : Int)) (hR : ∀ j, G < j → j < d.length → rd c (j : Int) = rd d (j : Int)) :
    ∀ (n h : Nat), G + 1 + n = h → h ≤ d.length → Ev (fun k => fold_Change.l1 k c d ep out (F : Int) (h : Int)) (out ++ [⟨1, ep, (F : Int), (d.take (G + 1)).drop F, ⟨#[]⟩, 0⟩]) := by
  intro n
  induction n with
  | zero =>
    intro h hh hhl
    refine ev_succ ?_
    simp only [fold_Change.l1]
    have e1 : wrap64 ((h : Int) - 1) = (G : Int) := by rw [wrap_in (by omega) (by omega)]; omega
    rw [e1]
    refine ev_pos (by omega) (ev_pos (by omega) (ev_pos (by omega) (ev_pos (by omega) (ev_neg hGd (ev_pos (by omega) (ev_pos (by omega) (ev_pos (by omega) ?_)))))))
    rw [show ((h : Int)).toNat = G + 1 by omega, show ((F : Int)).toNat = F by omega]
    have hyl : ((d.take (G + 1)).drop F).length = G + 1 - F := by rw [List.length_drop, List.length_take]; omega
    refine ev_bind (ev_const (show slices_Clone_byte_byte.f _ = some _ by unfold slices_Clone_byte_byte.f; rw [if_pos (by rw [hyl]; omega)])) (ev_pos (by omega) (ev_some rfl))
  | succ n ih =>
    intro h hh hhl
    refine ev_succ ?_
    simp only [fold_Change.l1]
    have e1 : wrap64 ((h : Int) - 1) = ((h - 1 : Nat) : Int) := by rw [wrap_in (by omega) (by omega)]; omega
    rw [e1]
    exact ev_pos (by omega) (ev_pos (by omega) (ev_pos (by omega) (ev_pos (by omega) (ev_pos (hR _ (by omega) (by omega)) (ih (h - 1) (by omega) (by omega))))))
theorem change_l0 (c d : List Int) (ep : Int) (out r : List S50) (hl : c.length = d.length) (hd : d.length ≤ 2000) (F : Nat) (hF : F < d.length) (hE : eqTo c d F) (hFd : rd c (F : Int) ≠ rd d (F : Int))
    (hk : Ev (fun k => fold_Change.l1 k c d ep out (F : Int) (d.length : Int)) r) :
    ∀ (n i : Nat), i + n = F → Ev (fun k => fold_Change.l0 k c d ep out (i : Int) (d.length : Int)) r := by
  intro n
  induction n with
  | zero =>
    intro i hi
    obtain rfl : i = F := by omega
    refine ev_succ ?_
    simp only [fold_Change.l0]
    refine ev_pos (by omega) (ev_pos (by omega) (ev_pos (by omega) (ev_pos (by omega) (ev_neg hFd (ev_succ ?_)))))
    simp only [fold_Change.j2]
    exact hk
  | succ n ih =>
    intro i hi
    refine ev_succ ?_
    simp only [fold_Change.l0]
    rw [wrap_succ (show i < d.length by omega) (by omega)]
    exact ev_pos (by omega) (ev_pos (by omega) (ev_pos (by omega) (ev_pos (by omega) (ev_pos (hE i (by omega)) (ih (i + 1) (by omega))))))
theorem change_l0_all (c d : List Int) (ep : Int) (out : List S50) (hl : c.length = d.length) (hd : d.length ≤ 2000) (hE : eqTo c d d.length) :
    ∀ (n i : Nat), i + n = d.length → Ev (fun k => fold_Change.l0 k c d ep out (i : Int) (d.length : Int)) out := by
  intro n
  induction n with
  | zero =>
    intro i hi
    refine ev_succ ?_
    simp only [fold_Change.l0]
    refine ev_neg (by omega) (ev_succ ?_)
    simp only [fold_Change.j2]
    refine ev_succ ?_
    simp only [fold_Change.l1]
    exact ev_neg (by omega) (ev_some rfl)
  | succ n ih =>
    intro i hi
    refine ev_succ ?_
    simp only [fold_Change.l0]
    rw [wrap_succ (show i < d.length by omega) (by omega)]
    exact ev_pos (by omega) (ev_pos (by omega) (ev_pos (by omega) (ev_pos (by omega) (ev_pos (hE i (by omega)) (ih (i + 1) (by omega))))))

/-! ### both Changes -/
theorem within_t {x a b : Int} (h : a ≤ x ∧ x ≤ b) : within x a b = true := by
  unfold within
  rw [Bool.and_eq_true, decide_eq_true_iff, decide_eq_true_iff]
  exact h
theorem within_i {x a b : Int} (h : within x a b = true) : a ≤ x ∧ x ≤ b := by
  unfold within at h
  rw [Bool.and_eq_true, decide_eq_true_iff, decide_eq_true_iff] at h
  exact h
theorem okE2_t {ep o : Int} {l : List Int} {s : ByteArray} {i : Int} (he : 1 ≤ ep ∧ ep ≤ 1099511627776) (h : 0 ≤ o ∧ o ≤ 2000) : okE 2 ep o l s i = true := by
  unfold okE
  rw [if_neg (by decide), if_pos rfl, within_t he, within_t h]
  rfl
theorem okE2_i {ep o : Int} {l : List Int} {s : ByteArray} {i : Int} (h : okE 2 ep o l s i = true) : (1 ≤ ep ∧ ep ≤ 1099511627776) ∧ (0 ≤ o ∧ o ≤ 2000) := by
  unfold okE at h
  rw [if_neg (by decide), if_pos rfl, Bool.and_eq_true] at h
  exact ⟨within_i h.1, within_i h.2⟩
theorem okE1_t {ep o : Int} {l : List Int} {s : ByteArray} {i : Int} (he : 1 ≤ ep ∧ ep ≤ 1099511627776) (h : 0 ≤ o ∧ o ≤ 2000) (h1 : 0 < l.length) (h2 : (l.length : Int) ≤ 2000 - o) : okE 1 ep o l s i = true := by
  unfold okE
  rw [if_pos rfl, within_t he, within_t h, decide_eq_true h1, decide_eq_true h2]
  rfl
theorem okE1_i {ep o : Int} {l : List Int} {s : ByteArray} {i : Int} (h : okE 1 ep o l s i = true) : (1 ≤ ep ∧ ep ≤ 1099511627776) ∧ 0 < l.length ∧ (l.length : Int) ≤ 2000 - o := by
  unfold okE at h
  rw [if_pos rfl, Bool.and_eq_true, Bool.and_eq_true, Bool.and_eq_true] at h
  exact ⟨within_i h.1, of_decide_eq_true h.2.1.2, of_decide_eq_true h.2.2⟩
/-- What both come to. -/
def ChgIs (o d : List Int) (ep : Int) (y : List S32) : Prop :=
  (¬ ((1 ≤ ep ∧ ep ≤ 1099511627776) ∧ d.length ≤ 2000) ∧ y = []) ∨
  (((1 ≤ ep ∧ ep ≤ 1099511627776) ∧ d.length ≤ 2000) ∧
    ((eqTo (sizedL o d.length) d d.length ∧ y = chL o d ep) ∨
     ∃ F G : Nat, F ≤ G ∧ G < d.length ∧ eqTo (sizedL o d.length) d F ∧ rd (sizedL o d.length) (F : Int) ≠ rd d (F : Int) ∧ rd (sizedL o d.length) (G : Int) ≠ rd d (G : Int) ∧ (∀ j, G < j → j < d.length → rd (sizedL o d.length) (j : Int) = rd d (j : Int)) ∧
       y = chL o d ep ++ [⟨1, ep, (F : Int), (d.take (G + 1)).drop F, ⟨#[]⟩, 0⟩]))
theorem chL_le (o d : List Int) (ep : Int) : (chL o d ep).length ≤ 1 := by
  unfold chL
  split <;> simp
theorem chgIs_le {o d : List Int} {ep : Int} {y : List S32} (h : ChgIs o d ep y) : y.length ≤ 2 := by
  have hc := chL_le o d ep
  rcases h with ⟨_, rfl⟩ | ⟨_, ⟨_, rfl⟩ | ⟨F, G, _, _, _, _, _, _, rfl⟩⟩
  · simp
  · omega
  · rw [List.length_append, List.length_singleton]; omega
theorem ref_change (o d : List Int) (ep : Int) (ho : isB o) (hd : isB d) : ∃ y, ChgIs o d ep y ∧ dolmenref9_Change.f o d ep = some y := by
  unfold dolmenref9_Change.f
  by_cases h1 : (d.length : Int) > 2000
  · exact ⟨[], .inl ⟨by omega, rfl⟩, by rw [if_pos h1]⟩
  rw [if_neg h1]
  by_cases h2 : ¬ (ep ≥ 1 ∧ ep ≤ 1099511627776)
  · exact ⟨[], .inl ⟨by omega, rfl⟩, by rw [if_pos h2]⟩
  rw [if_neg h2]
  have hok : (1 ≤ ep ∧ ep ≤ 1099511627776) ∧ d.length ≤ 2000 := by omega
  by_cases h3 : (strOfNums o).toList = (strOfNums d).toList
  · obtain rfl := str_inj ho hd h3
    refine ⟨[], .inr ⟨hok, .inl ⟨?_, ?_⟩⟩, by rw [if_pos h3]⟩
    · have : sizedL o o.length = o := by
        unfold sizedL
        rw [Nat.sub_self, List.take_of_length_le (Nat.le_refl _)]
        simp
      rw [this]
      exact fun _ _ => rfl
    · unfold chL
      rw [if_pos rfl]
  rw [if_neg h3, chC_sized]
  rcases diff_cases (sizedL o d.length) d d.length with h | ⟨F, G, g1, g2, g3, g4, g5, g6⟩
  · refine ⟨_, .inr ⟨hok, .inl ⟨h, rfl⟩⟩, ?_⟩
    rw [chS_none _ _ _ h, if_neg (by decide)]
  · refine ⟨_, .inr ⟨hok, .inr ⟨F, G, g1, g2, g3, g4, g5, g6, rfl⟩⟩, ?_⟩
    obtain ⟨e1, e2⟩ := chS_some (sizedL o d.length) d F G g3 g4 g5 g1 d.length (by omega) g6
    have e2' := e2 g2
    rw [e1, e2', if_pos (by omega), if_pos (by omega), show ((G : Int) + 1).toNat = G + 1 by omega, Int.toNat_natCast]
theorem prog_change (o d : List Int) (ep : Int) (ho : o.length ≤ 2100) (hd : d.length ≤ 2100) (y : List S32) (h : ChgIs o d ep y) : Ev (fun k => fold_Change.f k o d ep) (y.map toE) := by
  unfold fold_Change.f
  refine ev_bind (check_ev 2 ep (d.length : Int) [] ⟨#[]⟩ 0 (by simp)) ?_
  rcases h with ⟨hn, rfl⟩ | ⟨⟨he, hl⟩, h⟩
  · have : ¬ okE 2 ep (d.length : Int) [] ⟨#[]⟩ 0 = true := fun hk => hn ⟨(okE2_i hk).1, by have := (okE2_i hk).2; omega⟩
    rw [if_neg this]
    exact ev_neg (by simp) (ev_some rfl)
  · rw [if_pos (okE2_t he (by omega))]
    refine ev_pos rfl ?_
    have hcl := sizedL_length o d.length
    have key : ∀ out : List S50, out = (chL o d ep).map toE → Ev (fun k => fold_Change.j0 k o d ep out) (y.map toE) := by
      intro out hout
      have hol : out.length ≤ 1 := by rw [hout, List.length_map]; exact chL_le _ _ _
      refine ev_succ ?_
      simp only [fold_Change.j0]
      refine ev_bind (ev_const (sized_f o d.length (by omega) (by omega))) ?_
      rcases h with ⟨h, rfl⟩ | ⟨F, G, g1, g2, g3, g4, g5, g6, rfl⟩
      · rw [← hout]
        exact change_l0_all (sizedL o d.length) d ep out hcl hl h d.length 0 (by omega)
      · have k1 := change_l1 (sizedL o d.length) d ep out hol hcl hl F G g1 g2 g5 g6 (d.length - (G + 1)) d.length (by omega) (Nat.le_refl _)
        have k0 := change_l0 (sizedL o d.length) d ep out _ hcl hl F (by omega) g3 g4 k1 F 0 (by omega)
        rw [List.map_append, ← hout]
        exact k0
    by_cases hq : (o.length : Int) = (d.length : Int)
    · refine ev_pos hq (key _ ?_)
      unfold chL
      rw [if_pos hq]
      rfl
    · refine ev_neg hq (ev_pos (by simp) (key _ ?_))
      unfold chL
      rw [if_neg hq]
      rfl

/-! ### the two lists alike -/
theorem same_l0 (y : List S32) (hl : y.length ≤ 1000) : ∀ (n i : Nat), i + n = y.length → Ev (fun k => dolmenlaw13_same.l0 k (y.map toE) y (i : Int)) true := by
  have hlm : (y.map toE).length = y.length := List.length_map _
  intro n
  induction n with
  | zero =>
    intro i hi
    refine ev_succ ?_
    simp only [dolmenlaw13_same.l0]
    exact ev_neg (by omega) (ev_some rfl)
  | succ n ih =>
    intro i hi
    refine ev_succ ?_
    simp only [dolmenlaw13_same.l0]
    rw [rdE (show i < (y.map toE).length by omega), rdR (show i < y.length by omega), List.getElem_map, wrap_succ (show i < y.length by omega) (by omega)]
    exact ev_pos (by omega) (ev_pos (by omega) (ev_pos (by omega) (ev_pos rfl (ev_pos rfl (ev_pos rfl (ev_pos rfl (ev_pos rfl (ev_pos rfl (ih (i + 1) (by omega))))))))))
theorem same_ev (y : List S32) (hl : y.length ≤ 1000) : Ev (fun k => dolmenlaw13_same.f k (y.map toE) y) true := by
  unfold dolmenlaw13_same.f
  exact ev_pos (by rw [List.length_map]) (same_l0 y hl y.length 0 (by omega))

/-! ### what a log makes of a file -/
def fileL (l : List S50) (ep : Int) (b : List Int) : List Int := (l.filter fun e => decide (e.f1 ≤ ep)).foldl nextL b
theorem file_l0 (l : List S50) (ep : Int) (hl : l.length ≤ 1000) (hd : ∀ e ∈ l, e.f3.length ≤ 9223372036854775807) :
    ∀ (n i : Nat) (b : List Int), i + n = l.length → b.length ≤ 2000 → Ev (fun k => fold_File.l0 k ep b l (l.length : Int) (i : Int)) (fileL (l.drop i) ep b) := by
  intro n
  induction n with
  | zero =>
    intro i b hi hb
    refine ev_succ ?_
    simp only [fold_File.l0]
    refine ev_neg (by omega) (ev_some ?_)
    rw [List.drop_eq_nil_of_le (by omega)]
    rfl
  | succ n ih =>
    intro i b hi hb
    have hlt : i < l.length := by omega
    refine ev_succ ?_
    simp only [fold_File.l0]
    unfold fileL
    rw [rdE hlt, wrap_succ hlt (by omega), List.drop_eq_getElem_cons hlt, List.filter_cons]
    refine ev_pos (by omega) (ev_pos (by omega) (ev_pos (by omega) ?_))
    by_cases hq : l[i].f1 ≤ ep
    · rw [if_pos (decide_eq_true hq), List.foldl_cons]
      exact ev_pos hq (ev_bind (next_ev b l[i] (by omega) (hd _ (List.getElem_mem hlt))) (ih (i + 1) (nextL b l[i]) (by omega) (nextL_le b l[i] 2000 (by omega) (by omega) hb)))
    · rw [if_neg (by rw [decide_eq_true_iff]; exact hq)]
      exact ev_neg hq (ih (i + 1) b (by omega) hb)
theorem file_ev (l : List S50) (ep : Int) (hl : l.length ≤ 1000) (hd : ∀ e ∈ l, e.f3.length ≤ 9223372036854775807) : Ev (fun k => fold_File.f k l ep) (fileL l ep []) :=
  file_l0 l ep hl hd l.length 0 [] (by omega) (by simp)
theorem fileL_cons (e : S50) (l : List S50) (ep : Int) (b : List Int) (h : e.f1 ≤ ep) : fileL (e :: l) ep b = fileL l ep (nextL b e) := by
  unfold fileL
  rw [List.filter_cons, if_pos (decide_eq_true h), List.foldl_cons]
theorem fileL_append (l m : List S50) (ep : Int) (b : List Int) : fileL (l ++ m) ep b = fileL m ep (fileL l ep b) := by
  unfold fileL
  rw [List.filter_append, List.foldl_append]
def packL (l : List Int) (ep : Int) : List S50 := if okE 1 ep 0 l ⟨#[]⟩ 0 = true then [⟨1, ep, 0, l, ⟨#[]⟩, 0⟩] else []
theorem pack_ev (l : List Int) (ep : Int) (hl : l.length ≤ 2100) : Ev (fun k => fold_Pack.f k l ep) (packL l ep) := by
  unfold fold_Pack.f packL
  refine ev_bind (ev_const (show slices_Clone_byte_byte.f l = some l by unfold slices_Clone_byte_byte.f; rw [if_pos (by omega)])) (ev_bind (check_ev 1 ep 0 l ⟨#[]⟩ 0 (by omega)) ?_)
  by_cases h : okE 1 ep 0 l ⟨#[]⟩ 0 = true
  · rw [if_pos h, if_pos h]
    exact ev_pos rfl (ev_some rfl)
  · rw [if_neg h, if_neg h]
    exact ev_neg (by simp) (ev_some rfl)
theorem sizedL_self (l : List Int) : sizedL l l.length = l := by
  unfold sizedL
  rw [Nat.sub_self, List.take_of_length_le (Nat.le_refl _)]
  simp
theorem pack_file (l : List Int) (ep : Int) (hl : l.length ≤ 2000) (he : 1 ≤ ep ∧ ep ≤ 1099511627776) : fileL (packL l ep) ep [] = l := by
  unfold packL
  by_cases h : okE 1 ep 0 l ⟨#[]⟩ 0 = true
  · rw [if_pos h, fileL_cons _ _ _ _ (Int.le_refl _)]
    show nextL [] _ = l
    unfold nextL
    rw [if_pos (show okS ⟨1, ep, 0, l, ⟨#[]⟩, 0⟩ = true from h), if_pos rfl]
    unfold putL
    rw [show (0 : Int).toNat = 0 from rfl, List.take_zero, List.nil_append, List.drop_eq_nil_of_le (by rw [sizedL_length]; simp), List.append_nil]
  · rw [if_neg h]
    have : l.length = 0 := by
      rcases Nat.eq_zero_or_pos l.length with h0 | h0
      · exact h0
      · exact absurd (okE1_t he (by omega) h0 (by omega)) h
    rw [List.length_eq_zero_iff.1 this]
    rfl
theorem chg_file (o d : List Int) (ep : Int) (y : List S32) (h : ChgIs o d ep y) (he : 1 ≤ ep ∧ ep ≤ 1099511627776) (hd : d.length ≤ 2000) (ho : o.length ≤ 2000) : fileL (y.map toE) ep o = d := by
  have hcl := sizedL_length o d.length
  have step : fileL ((chL o d ep).map toE) ep o = sizedL o d.length := by
    unfold chL
    by_cases hq : (o.length : Int) = (d.length : Int)
    · rw [if_pos hq]
      have : o.length = d.length := by omega
      rw [← this, sizedL_self]
      rfl
    · rw [if_neg hq]
      show fileL [(⟨2, ep, (d.length : Int), [], ⟨#[]⟩, 0⟩ : S50)] ep o = _
      rw [fileL_cons _ _ _ _ (Int.le_refl _)]
      show nextL o _ = _
      unfold nextL
      have hk : okE 2 ep (d.length : Int) [] ⟨#[]⟩ 0 = true := okE2_t he (by omega)
      rw [if_pos (show okS ⟨2, ep, (d.length : Int), [], ⟨#[]⟩, 0⟩ = true from hk), if_neg (by show ¬ (2 : Int) = 1; decide), if_pos rfl]
      show sizedL o (d.length : Int).toNat = _
      rw [Int.toNat_natCast]
  rcases h with ⟨hn, _⟩ | ⟨_, ⟨h, rfl⟩ | ⟨F, G, g1, g2, g3, g4, g5, g6, rfl⟩⟩
  · exact absurd ⟨he, hd⟩ hn
  · rw [step]
    exact rd_ext hcl h
  · rw [List.map_append, fileL_append, step]
    have hyl : ((d.take (G + 1)).drop F).length = G + 1 - F := by rw [List.length_drop, List.length_take]; omega
    show fileL [(⟨1, ep, (F : Int), (d.take (G + 1)).drop F, ⟨#[]⟩, 0⟩ : S50)] ep _ = _
    rw [fileL_cons _ _ _ _ (Int.le_refl _)]
    show nextL _ _ = _
    unfold nextL
    have hk : okE 1 ep (F : Int) ((d.take (G + 1)).drop F) ⟨#[]⟩ 0 = true := okE1_t he (by omega) (by rw [hyl]; omega) (by rw [hyl]; omega)
    rw [if_pos (show okS ⟨1, ep, (F : Int), (d.take (G + 1)).drop F, ⟨#[]⟩, 0⟩ = true from hk), if_pos rfl]
    show putL (sizedL (sizedL o d.length) (max (sizedL o d.length).length ((F : Int).toNat + ((d.take (G + 1)).drop F).length))) ((d.take (G + 1)).drop F) (F : Int).toNat = d
    rw [Int.toNat_natCast, hyl, Nat.max_eq_left (by rw [hcl]; omega), sizedL_self]
    exact putL_ext hcl g1 g2 g3 g6

theorem FoldChanges : Go.Proofs.Ytacdocchcfbgcaa.Q.FoldChanges.Pure := by
  intro o d ep ho hwo hd hwd hwe
  refine Ev.rounds ?_
  unfold dolmenlaw13_FoldChanges.f
  have hbo : isB o := fun x hx => wf_u8 (hwo x hx)
  have hbd : isB d := fun x hx => wf_u8 (hwd x hx)
  have hT : Ev (fun k => dolmenlaw13_FoldChanges.j0 k o d ep true) true := by
    refine ev_succ ?_
    simp only [dolmenlaw13_FoldChanges.j0]
    exact ev_pos trivial (ev_bind (ev_const rfl) (ev_some rfl))
  by_cases h1 : (o.length : Int) > 2100
  · exact ev_pos h1 hT
  refine ev_neg h1 ?_
  by_cases h2 : (d.length : Int) > 2100
  · rw [decide_eq_true h2]
    exact hT
  rw [decide_eq_false h2]
  refine ev_succ ?_
  simp only [dolmenlaw13_FoldChanges.j0]
  refine ev_neg (by decide) ?_
  obtain ⟨y, hy, hr⟩ := ref_change o d ep hbo hbd
  have hx := prog_change o d ep (by omega) (by omega) y hy
  have hyl := chgIs_le hy
  refine ev_bind hx (ev_bind (ev_const hr) (ev_bind (same_ev y (by omega)) (ev_pos rfl (ev_bind (pack_ev d ep (by omega)) ?_))))
  have hEnd : ∀ b : Bool, packL d ep = [] → b = true → Ev (fun k => dolmenlaw13_FoldChanges.j1 k o d ep (y.map toE) (packL d ep) b) true := by
    intro b hp hb
    subst hb
    refine ev_succ ?_
    simp only [dolmenlaw13_FoldChanges.j1]
    exact ev_pos trivial (ev_pos (by rw [hp]; rfl) (ev_bind (ev_const rfl) (ev_some rfl)))
  by_cases h3 : (d.length : Int) > 2000
  · refine ev_pos h3 (hEnd true ?_ rfl)
    unfold packL
    rw [if_neg]
    intro h
    have := (okE1_i h).2.2
    omega
  refine ev_neg h3 (ev_bind (ev_const (epoch_f ep)) ?_)
  by_cases h4 : within ep 1 1099511627776 = true
  · have he := within_i h4
    rw [h4]
    have hpl : (packL d ep).length ≤ 1 ∧ ((packL d ep).length = 0 ↔ d.length = 0) := by
      unfold packL
      by_cases h : okE 1 ep 0 d ⟨#[]⟩ 0 = true
      · rw [if_pos h]
        have := (okE1_i h).2.1
        simp
        intro h0
        rw [h0] at this
        simp at this
      · rw [if_neg h]
        have : d.length = 0 := by
          rcases Nat.eq_zero_or_pos d.length with h0 | h0
          · exact h0
          · exact absurd (okE1_t he (by omega) h0 (by omega)) h
        simp [List.length_eq_zero_iff.1 this]
    have hdl : ∀ (l : List Int) (e : S50), l.length ≤ 2100 → e ∈ packL l ep → e.f3.length ≤ 9223372036854775807 := by
      intro l e hl he'
      unfold packL at he'
      split at he'
      · rw [List.mem_singleton.1 he']
        show l.length ≤ _
        omega
      · cases he'
    refine ev_succ ?_
    simp only [dolmenlaw13_FoldChanges.j1]
    refine ev_neg (by decide) (ev_bind (file_ev (packL d ep) ep (by omega) (fun e he' => hdl d e (by omega) he')) ?_)
    rw [pack_file d ep (by omega) he]
    refine ev_pos rfl (ev_neg (by omega) ?_)
    have hb : ((((packL d ep).length : Int) == 0) != ((d.length : Int) == 0)) = false := by
      by_cases h0 : d.length = 0
      · have := hpl.2.2 h0
        rw [this, h0]
        rfl
      · have : ¬ (packL d ep).length = 0 := fun h => h0 (hpl.2.1 h)
        rw [show ((((packL d ep).length : Int) == 0) = false) by rw [beq_eq_false_iff_ne]; omega, show (((d.length : Int) == 0) = false) by rw [beq_eq_false_iff_ne]; omega]
        rfl
    rw [hb]
    refine ev_succ ?_
    simp only [dolmenlaw13_FoldChanges.j2]
    refine ev_neg (by decide) ?_
    by_cases h5 : (o.length : Int) > 2000
    · exact ev_pos h5 (ev_bind (ev_const rfl) (ev_some rfl))
    have hpo : (packL o ep).length ≤ 1 := by unfold packL; split <;> simp
    have hyd : ∀ e ∈ y.map toE, e.f3.length ≤ 9223372036854775807 := by
      intro e he'
      obtain ⟨x, hx, rfl⟩ := List.mem_map.1 he'
      show x.f3.length ≤ _
      have hc : ∀ x ∈ chL o d ep, x.f3.length ≤ 9223372036854775807 := by
        intro x hx
        unfold chL at hx
        split at hx
        · cases hx
        · rw [List.mem_singleton.1 hx]
          simp
      rcases hy with ⟨_, rfl⟩ | ⟨_, ⟨_, rfl⟩ | ⟨F, G, _, _, _, _, _, _, rfl⟩⟩
      · cases hx
      · exact hc x hx
      · rcases List.mem_append.1 hx with hx | hx
        · exact hc x hx
        · rw [List.mem_singleton.1 hx]
          show ((d.take (G + 1)).drop F).length ≤ _
          rw [List.length_drop, List.length_take]
          omega
    refine ev_neg h5 (ev_bind (pack_ev o ep (by omega)) (ev_pos (by rw [List.length_map]; omega) (ev_bind (file_ev (packL o ep ++ y.map toE) ep (by rw [List.length_append, List.length_map]; omega) ?_) ?_)))
    · intro e he'
      rcases List.mem_append.1 he' with h | h
      · exact hdl o e (by omega) h
      · exact hyd e h
    · rw [fileL_append, pack_file o ep (by omega) he, chg_file o d ep y hy he (by omega) (by omega)]
      exact ev_pos rfl (ev_bind (ev_const rfl) (ev_some rfl))
  · rw [Bool.eq_false_iff.2 h4]
    refine hEnd _ ?_ rfl
    unfold packL
    rw [if_neg]
    intro h
    exact h4 (within_t (okE1_i h).1)
end Go.Proofs.Ytacdocchcfbgcaa.Pure
