-- printed by wip/mp.py (the kit's print, with given functions); Lean checks it
import Derived.Test.YtacdocchcfbgcaaQx0
import Derived.Test.YtacdocchcfbgcaaQx7
namespace Go.Proofs.Ytacdocchcfbgcaa.Q
open Go.RowKit Go.Proofs.YtacdocchcfbgcaaW.PrintWords Go.Proofs.YtacdocchcfbgcaaW.PrintLast Go.Proofs.YtacdocchcfbgcaaW.PrintMore
attribute [local go_sem] max2_int min2_int max_two min_two max_three min_three max_four min_four   -- for this text's walks alone
set_option linter.unusedVariables false
set_option linter.unusedSimpArgs false

/-! ### clean_own: function 50, given -/
def clean_own.f (a0_0 : Int) (a0_1 : Int) (a0_2 : Int) (l0_3 : List Int) (a0_4 : ByteArray) (a0_5 : Int) : Option (Int × Int × Int × List Int × ByteArray × Int) := if a0_0 = 1 then (some (a0_0, a0_1, a0_2, l0_3, (⟨#[]⟩ : ByteArray), 0)) else (if a0_0 = 2 then (some (a0_0, a0_1, a0_2, ([] : List Int), (⟨#[]⟩ : ByteArray), 0)) else (if a0_0 = 3 then (some (a0_0, a0_1, 0, ([] : List Int), a0_4, a0_5)) else (if a0_0 = 4 then (some (a0_0, a0_1, 0, ([] : List Int), a0_4, 0)) else (if a0_0 = 5 then (some (a0_0, a0_1, 0, ([] : List Int), (⟨#[]⟩ : ByteArray), a0_5)) else (some (a0_0, a0_1, 0, ([] : List Int), (⟨#[]⟩ : ByteArray), 0))))))
theorem clean_own.calls (a0_0 : Int) (a0_1 : Int) (a0_2 : Int) (P0_3_ : Nat → Prop) (u9000_ : Value) (l0_3 : List Int) (a0_4 : ByteArray) (a0_5 : Int) (r1 : Int) (r2 : Int) (r3 : Int) (r4 : List Int) (r5 : ByteArray) (r6 : Int) (w0 w : World) (hB : Below w0.heap.size w0 w) (ho0_3 : Kd.R (Kd.int .u8) 5 w w0.heap.size P0_3_ u9000_ l0_3) (h : clean_own.f a0_0 a0_1 a0_2 l0_3 a0_4 a0_5 = some (r1, r2, r3, r4, r5, r6)) :
    Calls Try.prog 50 #[.agg #[.int .i64 a0_0, .int .i64 a0_1, .int .i64 a0_2, u9000_, .string a0_4, .int .i64 a0_5]] w fun e w' => ∃ v3_ : Value, e = .returned (.agg #[.int .i64 r1, .int .i64 r2, .int .i64 r3, v3_, .string r5, .int .i64 r6]) ∧ Kd.R (Kd.int .u8) 5 w' w0.heap.size (fun k_ => (P0_3_ k_ ∨ w.heap.size ≤ k_)) v3_ r4 ∧ Below w0.heap.size w0 w' ∧ Kept w w' (fun k_ => P0_3_ k_) := by
  obtain ⟨A, c, rfl⟩ := Kd.R_slice ho0_3
  refine (Go.Proofs.Ytacdocchcfbgcaa.HOwn.own_any a0_0 a0_1 a0_2 A l0_3.length c a0_4 a0_5 w).mono ?_
  rintro e w' ⟨rfl, hb⟩
  have hB' : Below w0.heap.size w0 w' := below_then hB hB.size hb
  have hK : Kept w w' (fun k_ => P0_3_ k_) := Kept.of_below hb _
  unfold clean_own.f at h
  unfold Go.Proofs.Ytacdocchcfbgcaa.HOwn.ownV
  by_cases h1 : a0_0 = 1
  · rw [if_pos h1] at h ⊢
    simp only [Option.some.injEq, Prod.mk.injEq] at h
    obtain ⟨rfl, rfl, rfl, rfl, rfl, rfl⟩ := h
    exact ⟨_, rfl, Kd.R_mono (Kd.R_below ho0_3 hb) (fun _ hk => .inl hk), hB', hK⟩
  · rw [if_neg h1] at h ⊢
    by_cases h2 : a0_0 = 2
    · rw [if_pos h2] at h ⊢
      simp only [Option.some.injEq, Prod.mk.injEq] at h
      obtain ⟨rfl, rfl, rfl, rfl, rfl, rfl⟩ := h
      exact ⟨_, rfl, Kd.R_nil _ _ _ _ _, hB', hK⟩
    · rw [if_neg h2] at h ⊢
      by_cases h3 : a0_0 = 3
      · rw [if_pos h3] at h ⊢
        simp only [Option.some.injEq, Prod.mk.injEq] at h
        obtain ⟨rfl, rfl, rfl, rfl, rfl, rfl⟩ := h
        exact ⟨_, rfl, Kd.R_nil _ _ _ _ _, hB', hK⟩
      · rw [if_neg h3] at h ⊢
        by_cases h4 : a0_0 = 4
        · rw [if_pos h4] at h ⊢
          simp only [Option.some.injEq, Prod.mk.injEq] at h
          obtain ⟨rfl, rfl, rfl, rfl, rfl, rfl⟩ := h
          exact ⟨_, rfl, Kd.R_nil _ _ _ _ _, hB', hK⟩
        · rw [if_neg h4] at h ⊢
          by_cases h5 : a0_0 = 5
          · rw [if_pos h5] at h ⊢
            simp only [Option.some.injEq, Prod.mk.injEq] at h
            obtain ⟨rfl, rfl, rfl, rfl, rfl, rfl⟩ := h
            exact ⟨_, rfl, Kd.R_nil _ _ _ _ _, hB', hK⟩
          · rw [if_neg h5] at h ⊢
            simp only [Option.some.injEq, Prod.mk.injEq] at h
            obtain ⟨rfl, rfl, rfl, rfl, rfl, rfl⟩ := h
            exact ⟨_, rfl, Kd.R_nil _ _ _ _ _, hB', hK⟩

/-! ### clean_Thorough: function 31, given -/
def ownE (e : S50) : S50 :=
  if e.f0 = 1 then ⟨e.f0, e.f1, e.f2, e.f3, ⟨#[]⟩, 0⟩ else if e.f0 = 2 then ⟨e.f0, e.f1, e.f2, [], ⟨#[]⟩, 0⟩ else if e.f0 = 3 then ⟨e.f0, e.f1, 0, [], e.f4, e.f5⟩
  else if e.f0 = 4 then ⟨e.f0, e.f1, 0, [], e.f4, 0⟩ else if e.f0 = 5 then ⟨e.f0, e.f1, 0, [], ⟨#[]⟩, e.f5⟩ else ⟨e.f0, e.f1, 0, [], ⟨#[]⟩, 0⟩
def thor (l0 : List S50) : List Int → List S50 → Option (List S50)
  | [], acc => some acc
  | i :: r, acc => if 0 ≤ i ∧ i < (l0.length : Int) ∧ acc.length < 1954687338268 ∧ (rd_T50 l0 i).f3.length < 140737488355328 then thor l0 r (acc ++ [ownE (rd_T50 l0 i)]) else none
def clean_Thorough.f (k : Nat) (l0 : List S50) (l1 : List Int) : Option (List S50 × Option Int) :=
  (clean_Needed.f k l0 l1).bind fun bt => if bt.2.isNone = true then (thor l0 bt.1 []).map (fun r => (r, none)) else some ([], some (bt.2.getD 0))
theorem clean_Thorough.mono : ∀ a0 a1 k, LeO (clean_Thorough.f k a0 a1) (clean_Thorough.f (k + 1) a0 a1) := fun a0 a1 k => LeO.bind (clean_Needed.mono _ _ _) (fun _ => LeO.refl _)
theorem own_FK {W : World} {ok : Nat → Prop} {x : S50} {A : Option Addr} {c : Nat} (hl : x.f3.length ≤ c) (hF : Kd.F (Kd.int .u8) W ok A x.f3.length x.f3) :
    ∃ (o' : Int) (A' : Option Addr) (n' c' : Nat) (s' : ByteArray) (i' : Int), Go.Proofs.Ytacdocchcfbgcaa.HOwn.ownV x.f0 x.f1 x.f2 A x.f3.length c x.f4 x.f5 = #[.int .i64 x.f0, .int .i64 x.f1, .int .i64 o', .slice A' n' c', .string s', .int .i64 i'] ∧
      Kd.FK k50 W ok (ownE x) [.int .i64 x.f0, .int .i64 x.f1, .int .i64 o', .slice A' n' c', .string s', .int .i64 i'] := by
  unfold Go.Proofs.Ytacdocchcfbgcaa.HOwn.ownV ownE
  split
  · exact ⟨_, _, _, _, _, _, rfl, k50_mkF W ok ⟨x.f0, x.f1, x.f2, x.f3, ⟨#[]⟩, 0⟩ hl hF⟩
  · split
    · exact ⟨_, _, _, _, _, _, rfl, k50_mkF W ok ⟨x.f0, x.f1, x.f2, [], ⟨#[]⟩, 0⟩ (Nat.le_refl 0) (Kd.F_nil _ _ _)⟩
    · split
      · exact ⟨_, _, _, _, _, _, rfl, k50_mkF W ok ⟨x.f0, x.f1, 0, [], x.f4, x.f5⟩ (Nat.le_refl 0) (Kd.F_nil _ _ _)⟩
      · split
        · exact ⟨_, _, _, _, _, _, rfl, k50_mkF W ok ⟨x.f0, x.f1, 0, [], x.f4, 0⟩ (Nat.le_refl 0) (Kd.F_nil _ _ _)⟩
        · split
          · exact ⟨_, _, _, _, _, _, rfl, k50_mkF W ok ⟨x.f0, x.f1, 0, [], ⟨#[]⟩, x.f5⟩ (Nat.le_refl 0) (Kd.F_nil _ _ _)⟩
          · exact ⟨_, _, _, _, _, _, rfl, k50_mkF W ok ⟨x.f0, x.f1, 0, [], ⟨#[]⟩, 0⟩ (Nat.le_refl 0) (Kd.F_nil _ _ _)⟩
set_option maxHeartbeats 2000000 in
set_option maxRecDepth 100000 in
theorem clean_Thorough.calls (k : Nat) (A0 : Option Addr) (c0 : Nat) (l0 : List S50) (A1 : Option Addr) (c1 : Nat) (l1 : List Int) (r1 : List S50) (r2 : Option Int) (w : World) (hr0 : Kd.C k50 w A0 l0.length l0) (hc0 : l0.length ≤ c0) (hr1 : Kd.C (Kd.int .i64) w A1 l1.length l1) (hc1 : l1.length ≤ c1) (h : clean_Thorough.f k l0 l1 = some (r1, r2)) :
    Calls Try.prog 31 #[.slice A0 l0.length c0, .slice A1 l1.length c1] w fun e w' => ∃ v0_ : Value, e = .returned (.tuple #[v0_, errW r2]) ∧ Kd.V k50 50 w' w.heap.size (fun k_ => w.heap.size ≤ k_) v0_ r1 ∧ Below w.heap.size w w' := by
  have hu50 := Try.underlying50
  have hu44 := Try.underlying44
  have HR0 := Aside0.mk hr0
  have HC0 := Aside0.mk hc0
  have HR1 := Aside0.mk hr1
  have HC1 := Aside0.mk hc1
  clear hr0 hc0 hr1 hc1
  obtain ⟨⟨need, oe⟩, hn, h⟩ := Option.bind_eq_some_iff.mp h
  have HN := Aside0.mk hn
  clear hn
  cases oe with
  | some q =>
    replace h : some (([] : List S50), some q) = some (r1, r2) := h
    simp only [Option.some.injEq, Prod.mk.injEq] at h
    obtain ⟨rfl, rfl⟩ := h
    go_enter Try.func31, Try.ntmps31
    go_wp2_with (go_at_call 28; refine (clean_Needed.calls k _ _ l0 _ _ l1 need (some q) _ HR0.out HC0.out HR1.out HC1.out HN.out).mono ?_; rintro e w4 ⟨v218, rfl, ho0, hb⟩; have HB := Aside0.mk hb; clear hb ho0; simp only [errW_none, errW_some])
    go_ret2
    exact ⟨_, by simp [errW_none, errW_some], Kd.V_nil _ _ _ _ _, HB.out⟩
  | none =>
    replace h : (thor l0 need []).map (fun r => (r, (none : Option Int))) = some (r1, r2) := h
    obtain ⟨r1', ht, he⟩ := Option.map_eq_some_iff.mp h
    simp only [Prod.mk.injEq] at he
    obtain ⟨rfl, rfl⟩ := he
    have HT := Aside0.mk ht
    clear h ht
    go_enter Try.func31, Try.ntmps31
    go_wp2_with (go_at_call 28; refine (clean_Needed.calls k _ _ l0 _ _ l1 need none _ HR0.out HC0.out HR1.out HC1.out HN.out).mono ?_; rintro e w4 ⟨v218, rfl, ho0, hb⟩; have HB := Aside0.mk hb; obtain ⟨An, cn, rfl⟩ := Kd.R_slice ho0; have HNd := Aside0.mk (Kd.R_reads' ho0).2.2; have HBase := Aside0.mk (Below.refl w4.heap.size w4); clear hb ho0; simp only [errW_none, errW_some])
    go_loopw [4, 21] (fun v4 v21 w' => ∃ (j : Nat) (acc : List S50), v21 = .int .i64 j ∧ j ≤ need.length ∧ Aside0 (thor l0 (need.drop j) acc = some r1') ∧ Aside0 (Kd.N k50 50 w' w4.heap.size (fun k_ => w4.heap.size ≤ k_) v4 acc) ∧ Aside0 (Below w4.heap.size w4 w')) (fun _ v21 _ => need.length - (intOf v21).toNat)
    case atStart => exact ⟨0, [], rfl, Nat.zero_le _, HT, ⟨Kd.N_nil _ _ _ _ _⟩, HBase⟩
    case round =>
      clear HT HBase
      obtain ⟨j, acc, rfl, hj, HT, HO, HB4⟩ := hrel
      have hm4 : need.length ≤ 9223372036854775807 := HNd.out.2.1
      by_cases hlt : j < need.length
      · have hlt' : (j : Int) < (need.length : Int) := by omega
        have ht := HT.out
        clear HT
        rw [List.drop_eq_getElem_cons hlt] at ht
        unfold thor at ht
        split at ht
        · rename_i hc
          obtain ⟨h1, h2, h3, h4⟩ := hc
          have HT := Aside0.mk ht
          clear ht
          obtain ⟨ad, e, hx⟩ := Kd.at_int (Kd.C_below HNd.out HB4.out) (j : Int) (by omega) hlt'
          cases e
          rw [show rd need (j : Int) = need[j] from by unfold rd; simp [hlt]] at hx
          rw [Int.toNat_natCast] at hx
          obtain ⟨ae, A3, c3, rfl, e0, e1, e2, e3, e4, e5, e6, e7⟩ := at_T50 (Kd.C_below (Kd.C_below HR0.out HB.out) HB4.out) need[j] h1 h2
          have hm0 : l0.length ≤ 9223372036854775807 := HR0.out.2.1
          generalize rd_T50 l0 need[j] = x at *
          generalize need[j] = i at *
          obtain ⟨x0, x1, x2, x3, x4, x5⟩ := x
          dsimp only at *
          have E6 := Aside0.mk e6
          have E7 := Aside0.mk e7
          have H3 := Aside0.mk h3
          have H4 := Aside0.mk h4
          clear e6 e7 h3 h4 HR0 HC0 HR1 HC1 HN
          have b1 : decide (0 ≤ i) = true := decide_eq_true h1
          have b2 : decide (i < (l0.length : Int)) = true := decide_eq_true h2
          have HJ := Aside0.mk hj
          have HS := Aside0.mk (below_size HB4.out)
          have HL := Aside0.mk (Kd.N_lt HO.out)
          clear hj hlt
          go_wp2_with (first | ((with_reducible refine gate_builtin (b := .append) (xs := #[.const (.slice none 0 0), .tmp 30]) rfl ?_); at_builtin; (refine Kd.R_append_rows (Kd.int .u8) (w0 := w4) w4.heap.size rfl (.const (.slice none 0 0)) (.tmp 30) 30 5 (.int .u8 0) 1 rfl Try.underlying30 (by rfl) rfl (by decide) (by omega) (.slice none 0 0) ([] : List Int) x3 _ _ _ (fun k_ => wr.heap.size < k_) (fun _ => False) rfl rfl ?aO ?aR (fun _ _ h => h) (fun _ h => h.elim) ?aF ?aB ?aS ?aL ?_; (case aR => exact Kd.C_alloc E7.out _); (case aB => exact below_alloc HB4.out _); (case aF => exact (fun k hk => by have := hk; simp at this; omega)); (case aO => exact Kd.R_nil _ _ _ _ _); (case aS => exact below_size (below_alloc HB4.out _)); (case aL => have := H4.out; simp only [List.length_nil]; omega); intro v225 w16 ho hb hg hat; rw [List.nil_append] at ho; have BK : w16.heap[wr.heap.size]? = some (.cells #[.int .i64 x0, .int .i64 x1, .int .i64 x2, .slice A3 x3.length c3, .string x4, .int .i64 x5] 50 (0, 0)) := (hg.block _ (by simp) (by simp [Value.ownBlock])).trans (heap_alloc_new wr _); have HO2 := Aside0.mk (Kd.N_grown (Kd.N_alloc (Kd.N_elderB HO.out wr.heap.size (Nat.le_refl _)) _) hg (fun _ _ => by simp [Value.ownBlock])); obtain ⟨Ad, cd, rfl⟩ := Kd.R_slice ho; have HD := Aside0.mk (Kd.N_F (Kd.R_N ho)); have HDl := Aside0.mk (Kd.R_reads' ho).2.1; have HB5 := Aside0.mk hb; have hcz_0 := blk_cell BK 0; have hcz_1 := blk_cell BK 1; have hcz_2 := blk_cell BK 2; have hcz_3 := blk_cell BK 3; have hcz_4 := blk_cell BK 4; have hcz_5 := blk_cell BK 5; have hfz_3 := blk_frozen BK 3; have hgs : Aside0 (wr.heap.size < w16.heap.size) := ⟨by have := Nat.lt_of_lt_of_le (Nat.lt_succ_self wr.heap.size) (by simpa using hg.size : wr.heap.size + 1 ≤ w16.heap.size); exact this⟩; clear ho hb hg hat BK HO HB4)) | (go_at_call 50; (refine (Go.Proofs.Ytacdocchcfbgcaa.HOwn.own_any x0 x1 x2 Ad x3.length cd x4 x5 _).mono ?_; rintro e w17 ⟨rfl, hb⟩; have HO3 := Aside0.mk (Kd.N_below (Kd.N_far (p := ⟨wr.heap.size, 3, none⟩) HO2.out (fun _ hk => hk.2) (.slice Ad x3.length cd)) hb); have HD2 := Aside0.mk (Kd.F_below (Kd.F_far (p := ⟨wr.heap.size, 3, none⟩) HD.out (fun k_ hk => by intro he; have h1_ : wr.heap.size < k_ := hk; have h2_ : k_ = wr.heap.size := he; omega) (.slice Ad x3.length cd)) hb); have HB6 := Aside0.mk (below_step (Below.setCell HB5.out HS.out _) hb); obtain ⟨o', A', n', c', s', i', hov, hfk⟩ := own_FK (x := ⟨x0, x1, x2, x3, x4, x5⟩) HDl.out HD2.out; dsimp only at hov; rw [hov]; have HFK := Aside0.mk hfk; clear HO2 HD HB5 hb hov hfk)) | ((with_reducible refine gate_builtin (b := .append) (xs := #[.tmp 33, .tmp 36]) rfl ?_); at_builtin; (refine Kd.N_append k50 (w0 := w4) w4.heap.size rfl (.tmp 33) (.tmp 36) 27 50 (.agg #[.int .i64 0, .int .i64 0, .int .i64 0, .slice none 0 0, .string ⟨#[]⟩, .int .i64 0]) 72 rfl Try.underlying27 (by rfl) rfl (by decide) (by omega) _ acc (ownE ⟨x0, x1, x2, x3, x4, x5⟩) _ (fun k_ => w4.heap.size ≤ k_) (fun k_ => wr.heap.size < k_) rfl rfl HFK.out ?aK ?aF ?aO ?aB ?aS ?aL ?_; (case aK => exact fun k hk => ⟨by have := HS.out; omega, fun he => by have := HL.out k he.symm; omega⟩); (case aF => exact fun k hk => Nat.le_trans (below_size HB6.out) hk); (case aO => exact Kd.N_mono HO3.out (fun _ hk => hk.1)); (case aB => exact HB6.out); (case aS => exact below_size HB6.out); (case aL => have := H3.out; omega); intro v1 w18 ho hb hg hat; have HO4 := Aside0.mk ho; have HB7 := Aside0.mk hb; clear ho hb hg hat HO3 HB6)))
          go_roundw
          case rel => exact ⟨j + 1, acc ++ [ownE ⟨x0, x1, x2, x3, x4, x5⟩], by go_num, by have := HJ.out; omega, HT, HO4, HB7⟩
          case measure => simp [intOf]; omega
        · cases ht
      · have HE : Aside0 (r1' = acc) := ⟨by
          have := HT.out
          rw [List.drop_eq_nil_of_le (by omega)] at this
          exact (Option.some.inj this).symm⟩
        go_wp2
        go_ret2
        exact ⟨_, by first | rfl | simp [errW_none], by rw [HE.out]; exact Kd.V_mono (Kd.N_V HO.out) (fun k hk => Nat.le_trans (below_size HB.out) hk), below_then HB.out HB.out.size HB4.out⟩

/-! ### dolmenlaw14_CleanWrites: function 7, given -/
def cwE (i : Nat) : S50 := ⟨1, (i : Int) + 1, 3, [97, 98, 99], ⟨#[]⟩, 0⟩
def cwL : Nat → List S50
  | 0 => []
  | i + 1 => cwL i ++ [cwE i]
theorem cwL_length : ∀ i, (cwL i).length = i
  | 0 => rfl
  | i + 1 => by simp [cwL, cwL_length i]
def cwZ (n : Nat) (z : Bool) : List S50 := if z = true then cwL n ++ [⟨2, (n : Int) + 1, 0, [], ⟨#[]⟩, 0⟩] else cwL n
def cwK (n : Nat) (z : Bool) (l : List Int) (i : Nat) : Bool := (l.any fun e => e == (i : Int)) && (decide (i < n) || z)
def cwC (n : Nat) (z : Bool) (l : List Int) : Nat → Nat
  | 0 => 0
  | i + 1 => cwC n z l i + (if cwK n z l (i + 1) = true then 1 else 0)
theorem cwC_le (n : Nat) (z : Bool) (l : List Int) : ∀ i, cwC n z l i ≤ i
  | 0 => Nat.le_refl _
  | i + 1 => by
    have := cwC_le n z l i
    unfold cwC
    split <;> omega
theorem cw_FK (wr : World) (i : Nat) : Kd.FK k50 (wr.alloc (.cells #[.int .u8 97, .int .u8 98, .int .u8 99] 5 (3, 4))) (fun k_ => k_ = wr.heap.size) (cwE i) [.int .i64 1, .int .i64 ((i : Int) + 1), .int .i64 3, .slice (some ⟨wr.heap.size, 0, none⟩) 3 3, .string ⟨#[]⟩, .int .i64 0] := by
  refine k50_mkF _ _ (cwE i) (A3 := some ⟨wr.heap.size, 0, none⟩) (c3 := 3) (Nat.le_refl 3) fun W' hW => ?_
  have hb : W'.heap[wr.heap.size]? = some (.cells #[.int .u8 97, .int .u8 98, .int .u8 99] 5 (3, 4)) := (hW _ rfl (by simp)).trans (heap_alloc_new wr _)
  exact Go.Proofs.Ytacdocchcfbgcaa.HBlk.C_of_block hb (Reps.one (show Kd.K (Kd.int .u8) _ 97 [.int .u8 97] from rfl) (Reps.one (show Kd.K (Kd.int .u8) _ 98 [.int .u8 98] from rfl) (Reps.one (show Kd.K (Kd.int .u8) _ 99 [.int .u8 99] from rfl) (Reps.none _ _)))) (show 3 ≤ 9223372036854775807 by decide)
def dolmenlaw14_CleanWrites.f (k : Nat) (a0 : Int) (a1 : Bool) (l2 : List Int) : Option Bool :=
  if a0 < 1 ∨ a0 > 30 ∨ l2.length > 10 then some true else
    (clean_Thorough.f k (cwZ a0.toNat a1) l2).bind fun r => if r.2.isNone = true then some (decide (r.1.length = 1 + cwC a0.toNat a1 l2 a0.toNat)) else some false
theorem dolmenlaw14_CleanWrites.mono : ∀ a0 a1 a2 k, LeO (dolmenlaw14_CleanWrites.f k a0 a1 a2) (dolmenlaw14_CleanWrites.f (k + 1) a0 a1 a2) := fun a0 a1 a2 k => LeO.ite (LeO.refl _) (LeO.bind (clean_Thorough.mono _ _ _) (fun _ => LeO.refl _))
set_option hygiene false in
local macro "cw_awake" : tactic => `(tactic| (
  go_enter Try.func7, Try.ntmps7
  go_wp2_with (go_at_call 25; refine (aw_any _).mono ?_; rintro e w9 ⟨rfl, hb⟩; have HB := Aside0.mk hb; clear hb)
  go_ret
  exact ⟨rfl, HB.out⟩))
set_option maxHeartbeats 2000000 in
set_option maxRecDepth 100000 in
theorem cw_any (k n : Nat) (a1 : Bool) (A2 : Option Addr) (c2 : Nat) (l2 : List Int) (r : Bool) (w : World) (hr2 : Kd.C (Kd.int .i64) w A2 l2.length l2) (hc2 : l2.length ≤ c2) (h0 : 1 ≤ n) (h1 : n ≤ 30) (h2 : l2.length ≤ 10) (rt : List S50 × Option Int) (ht : clean_Thorough.f k (cwZ n a1) l2 = some rt)
    (hr : r = if rt.2.isNone = true then decide (rt.1.length = 1 + cwC n a1 l2 n) else false) :
    Calls Try.prog 7 #[.int .i64 n, .bool a1, .slice A2 l2.length c2] w fun e w' => e = .returned (.bool r) ∧ Below w.heap.size w w' := by
  have HR2 := Aside0.mk hr2
  have HC2 := Aside0.mk hc2
  have HT := Aside0.mk ht
  have HRr := Aside0.mk hr
  clear hr2 hc2 ht hr
  have b0 : decide ((n : Int) < 1) = false := decide_eq_false (by omega)
  have b1 : decide (30 < (n : Int)) = false := decide_eq_false (by omega)
  have b2 : decide (10 < (l2.length : Int)) = false := decide_eq_false (by omega)
  have hu50 := Try.underlying50
  go_enter Try.func7, Try.ntmps7
  go_wp2
  go_loopw [7, 8] (fun v7 v8 w' => ∃ i : Nat, v8 = .int .i64 i ∧ i ≤ n ∧ Aside0 (Kd.N k50 50 w' w.heap.size (fun k_ => w.heap.size ≤ k_) v7 (cwL i)) ∧ Aside0 (Below w.heap.size w w')) (fun _ v8 _ => n - (intOf v8).toNat)
  case atStart => exact ⟨0, rfl, Nat.zero_le _, ⟨Kd.N_nil _ _ _ _ _⟩, ⟨Below.refl _ _⟩⟩
  case round =>
    obtain ⟨i, rfl, hi, HO, HB⟩ := hrel
    by_cases hlt : i < n
    · have k1 := Go.Proofs.Ytacdocchcfbgcaa.HBlk.conv_const Try.underlying30 Try.underlying5 wr #[.int .u8 97, .int .u8 98, .int .u8 99] 3 3 wr.heap.size rfl
      have HS := Aside0.mk (below_size HB.out)
      have HL := Aside0.mk (Kd.N_lt HO.out)
      have HI := Aside0.mk h1
      go_wp2_with ((with_reducible refine gate_builtin (b := .append) (xs := #[.tmp 32, .tmp 38]) rfl ?_); at_builtin; (refine Kd.N_append k50 (w0 := w) w.heap.size rfl (.tmp 32) (.tmp 38) 27 50 (.agg #[.int .i64 0, .int .i64 0, .int .i64 0, .slice none 0 0, .string ⟨#[]⟩, .int .i64 0]) 72 rfl Try.underlying27 (by rfl) rfl (by decide) (by omega) _ (cwL i) (cwE i) _ (fun k_ => w.heap.size ≤ k_) (fun k_ => k_ = wr.heap.size) rfl (by show Value.slice (some ⟨wr.heap.size + 1, 0, none⟩) 1 1 = .slice (some ⟨(wr.alloc _).heap.size, 0, none⟩) 1 1; simp) (cw_FK wr i) ?aK ?aF ?aO ?aB ?aS ?aL ?_; (case aK => exact fun k hk => ⟨by have := HS.out; omega, fun he => by have := HL.out k he.symm; omega⟩); (case aF => exact fun k hk => Nat.le_trans (below_size (below_alloc HB.out _)) hk); (case aO => exact Kd.N_alloc HO.out _); (case aB => exact below_alloc HB.out _); (case aS => exact below_size (below_alloc HB.out _)); (case aL => rw [cwL_length]; omega); intro v1 w18 ho hb hg hat; have HO4 := Aside0.mk ho; have HB7 := Aside0.mk hb; clear ho hb hg hat HO HB))
      go_roundw
      case rel => exact ⟨i + 1, by go_num, by omega, HO4, HB7⟩
      case measure => simp [intOf]; omega
    · have hin : i = n := by omega
      subst hin
      have HI := Aside0.mk h1
      go_upto_if 40 with (fail)
      go_cut [7] (fun v7 wc => Aside0 (Kd.N k50 50 wc w.heap.size (fun k_ => w.heap.size ≤ k_) v7 (cwZ i a1)) ∧ Aside0 (Below w.heap.size w wc))
      case first =>
        cases a1 with
        | true =>
          have HS := Aside0.mk (below_size HB.out)
          go_wp2_with ((with_reducible refine gate_builtin (b := .append) (xs := #[.tmp 41, .tmp 45]) rfl ?_); at_builtin; (refine Kd.N_append k50 (w0 := w) w.heap.size rfl (.tmp 41) (.tmp 45) 27 50 (.agg #[.int .i64 0, .int .i64 0, .int .i64 0, .slice none 0 0, .string ⟨#[]⟩, .int .i64 0]) 72 rfl Try.underlying27 (by rfl) rfl (by decide) (by omega) _ (cwL i) ⟨2, (i : Int) + 1, 0, [], ⟨#[]⟩, 0⟩ _ (fun k_ => w.heap.size ≤ k_) (fun _ => False) rfl rfl (k50_mkF _ _ ⟨2, (i : Int) + 1, 0, [], ⟨#[]⟩, 0⟩ (Nat.le_refl 0) (Kd.F_nil _ _ _)) (fun _ hk => hk.elim) ?aF ?aO ?aB ?aS ?aL ?_; (case aF => exact fun k hk => Nat.le_trans (below_size HB.out) hk); (case aO => exact HO.out); (case aB => exact HB.out); (case aS => exact below_size HB.out); (case aL => rw [cwL_length]; omega); intro v1 w18 ho hb hg hat; have HO4 := Aside0.mk ho; have HB7 := Aside0.mk hb; clear ho hb hg hat HO HB))
          go_meet
          case rel => exact ⟨HO4, HB7⟩
        | false =>
          go_wp2
          go_meet
          case rel => exact ⟨HO, HB⟩
      case rest =>
        clear HO HB
        obtain ⟨HO, HB⟩ := hcut
        obtain ⟨Ao, co, eo⟩ := Kd.N_slice HO.out
        subst eo
        obtain ⟨t, ot⟩ := rt
        cases ot with
        | some q =>
          have hrr := HRr.out
          simp at hrr
          subst hrr
          clear HRr
          go_wp2_with (go_at_call 31; (refine (clean_Thorough.calls k _ _ (cwZ i a1) _ _ l2 t (some q) _ (Kd.N_reads' HO.out).2.2 (Kd.N_reads' HO.out).2.1 (Kd.C_below HR2.out HB.out) HC2.out HT.out).mono ?_; rintro e w22 ⟨v250, rfl, ho0, hb⟩; have HB2 := Aside0.mk (below_step HB.out hb); clear hb ho0; simp only [errW_none, errW_some]))
          go_ret
          exact ⟨rfl, HB2.out⟩
        | none =>
          have hrr := HRr.out
          simp only [Option.isNone_none, if_true] at hrr
          have HRq := Aside0.mk hrr
          clear hrr HRr
          go_wp2_with (go_at_call 31; (refine (clean_Thorough.calls k _ _ (cwZ i a1) _ _ l2 t none _ (Kd.N_reads' HO.out).2.2 (Kd.N_reads' HO.out).2.1 (Kd.C_below HR2.out HB.out) HC2.out HT.out).mono ?_; rintro e w22 ⟨v250, rfl, ho0, hb⟩; have HB2 := Aside0.mk (below_step HB.out hb); obtain ⟨At, ct, rfl⟩ := Kd.V_slice ho0; clear hb ho0; simp only [errW_none, errW_some]))
          go_loopw [11, 12] (fun v11 v12 w' => ∃ m : Nat, m ≤ i ∧ v11 = .int .i64 ((1 + cwC i a1 l2 m : Nat) : Int) ∧ v12 = .int .i64 ((m + 1 : Nat) : Int) ∧ Aside0 (Below w.heap.size w w')) (fun _ v12 _ => i + 1 - (intOf v12).toNat)
          case atStart => exact ⟨0, Nat.zero_le _, rfl, rfl, HB2⟩
          case round =>
            obtain ⟨m, hm, rfl, rfl, HB3⟩ := hrel
            have hcl := cwC_le i a1 l2 m
            by_cases hlt2 : m < i
            · have b3 : decide (((m + 1 : Nat) : Int) ≤ (i : Int)) = true := decide_eq_true (by omega)
              go_wp2
              go_loopw [13, 14] (fun v13 v14 w' => ∃ j : Nat, j ≤ l2.length ∧ v13 = .bool ((l2.take j).any fun e => e == ((m + 1 : Nat) : Int)) ∧ v14 = .int .i64 j ∧ Aside0 (Below w.heap.size w w')) (fun _ v14 _ => l2.length - (intOf v14).toNat)
              case atStart => exact ⟨0, Nat.zero_le _, by simp, rfl, HB3⟩
              case round =>
                clear HB3
                obtain ⟨j, hj, rfl, rfl, HB4⟩ := hrel
                by_cases hlt3 : j < l2.length
                · have hlt3' : (j : Int) < (l2.length : Int) := by omega
                  obtain ⟨ad, e, hx⟩ := Kd.at_int (Kd.C_below HR2.out HB4.out) (j : Int) (by omega) hlt3'
                  cases e
                  rw [Int.toNat_natCast] at hx
                  rw [show rd l2 (j : Int) = l2[j] from by unfold rd; simp [hlt3]] at hx
                  have hnx : ((l2.take (j + 1)).any fun e => e == ((m + 1 : Nat) : Int)) = (((l2.take j).any fun e => e == ((m + 1 : Nat) : Int)) || (l2[j] == ((m + 1 : Nat) : Int))) := by
                    rw [List.take_succ_eq_append_getElem hlt3, List.any_append]; simp
                  generalize l2[j] = x at *
                  cases hk : ((l2.take j).any fun e => e == ((m + 1 : Nat) : Int)) with
                  | true =>
                    have HNX := Aside0.mk hnx
                    clear hnx
                    have HK := Aside0.mk hk
                    clear hk
                    go_wp2
                    go_roundw
                    case rel => exact ⟨j + 1, by omega, by rw [HNX.out, HK.out]; rfl, by go_num, HB4⟩
                    case measure => simp [intOf]; omega
                  | false =>
                    have HNX := Aside0.mk hnx
                    clear hnx
                    have HK := Aside0.mk hk
                    clear hk
                    go_wp2
                    go_roundw
                    case rel => exact ⟨j + 1, by omega, by rw [HNX.out, HK.out, Bool.false_or]; first | done | rfl | (congr 1; simp), by go_num, HB4⟩
                    case measure => simp [intOf]; omega
                · have hje : l2.take j = l2 := List.take_of_length_le (by omega)
                  rw [hje]
                  have hc1 : cwC i a1 l2 (m + 1) = cwC i a1 l2 m + (if cwK i a1 l2 (m + 1) = true then 1 else 0) := rfl
                  have hcl1 := cwC_le i a1 l2 (m + 1)
                  have hcl30 : cwC i a1 l2 m ≤ 30 := by omega
                  generalize cwC i a1 l2 m = cm at *
                  generalize hcn : cwC i a1 l2 (m + 1) = cn at *
                  have HCN := Aside0.mk hcn
                  clear hcn
                  unfold cwK at hc1
                  cases hk : (l2.any fun e => e == ((m + 1 : Nat) : Int)) with
                  | false =>
                    rw [hk] at hc1
                    simp at hc1
                    subst hc1
                    clear hk
                    go_wp2
                    go_roundw
                    case rel => exact ⟨m + 1, by omega, by rw [HCN.out]; first | done | rfl | go_num, by go_num, HB4⟩
                    case measure => simp [intOf]; omega
                  | true =>
                    rw [hk] at hc1
                    clear hk
                    cases hd : decide (((m + 1 : Nat) : Int) < (i : Int)) with
                    | true =>
                      have : m + 1 < i := by have := of_decide_eq_true hd; omega
                      rw [decide_eq_true this] at hc1
                      simp at hc1
                      subst hc1
                      go_wp2
                      go_roundw
                      case rel => exact ⟨m + 1, by omega, by rw [HCN.out]; first | done | go_num, by go_num, HB4⟩
                      case measure => simp [intOf]; omega
                    | false =>
                      have : ¬ m + 1 < i := by have := of_decide_eq_false hd; omega
                      rw [decide_eq_false this] at hc1
                      cases a1 with
                      | true =>
                        simp at hc1
                        subst hc1
                        go_wp2
                        go_roundw
                        case rel => exact ⟨m + 1, by omega, by rw [HCN.out]; first | done | go_num, by go_num, HB4⟩
                        case measure => simp [intOf]; omega
                      | false =>
                        simp at hc1
                        subst hc1
                        go_wp2
                        go_roundw
                        case rel => exact ⟨m + 1, by omega, by rw [HCN.out]; first | done | rfl | go_num, by go_num, HB4⟩
                        case measure => simp [intOf]; omega
            · have hme : i = m := by omega
              have b3 : decide (((m + 1 : Nat) : Int) ≤ (i : Int)) = false := decide_eq_false (by omega)
              have b4 : ((t.length : Int) == ((1 + cwC i a1 l2 m : Nat) : Int)) = r := by
                rw [HRq.out, Bool.eq_iff_iff, hme]
                simp
                omega
              have HB4 := Aside0.mk b4
              clear b4
              generalize ((1 + cwC i a1 l2 m : Nat) : Int) = q at *
              cases r with
              | false =>
                have b5 := HB4.out
                go_wp2
                go_ret
                exact ⟨rfl, HB3.out⟩
              | true =>
                have b5 := HB4.out
                go_wp2_with (go_at_call 25; refine (aw_any _).mono ?_; rintro e w9 ⟨rfl, hb⟩; have HB5 := Aside0.mk (below_step HB3.out hb); clear hb)
                go_ret
                exact ⟨rfl, HB5.out⟩
theorem dolmenlaw14_CleanWrites.calls (k : Nat) (a0 : Int) (a1 : Bool) (A2 : Option Addr) (c2 : Nat) (l2 : List Int) (r : Bool) (w : World) (hr2 : Kd.C (Kd.int .i64) w A2 l2.length l2) (hc2 : l2.length ≤ c2) (h : dolmenlaw14_CleanWrites.f k a0 a1 l2 = some r) :
    Calls Try.prog 7 #[.int .i64 a0, .bool a1, .slice A2 l2.length c2] w fun e w' => e = .returned (.bool r) ∧ Below w.heap.size w w' := by
  unfold dolmenlaw14_CleanWrites.f at h
  split at h
  · rename_i hc
    obtain rfl := Option.some.inj h
    have hm := hr2.2.1
    clear h hr2
    by_cases h0 : a0 < 1
    · have b0 : decide (a0 < 1) = true := decide_eq_true h0
      clear hc
      cw_awake
    · have b0 : decide (a0 < 1) = false := decide_eq_false h0
      by_cases h1 : a0 > 30
      · have b1 : decide (30 < a0) = true := decide_eq_true h1
        clear hc
        cw_awake
      · have b1 : decide (30 < a0) = false := decide_eq_false h1
        have b2 : decide (10 < (l2.length : Int)) = true := decide_eq_true (by omega)
        clear hc h0 h1
        cw_awake
  · rename_i hc
    obtain ⟨n, rfl⟩ := Int.eq_ofNat_of_zero_le (show 0 ≤ a0 by omega)
    obtain ⟨rt, ht, h⟩ := Option.bind_eq_some_iff.mp h
    rw [Int.toNat_natCast] at ht h
    refine cw_any k n a1 A2 c2 l2 r w hr2 hc2 (by omega) (by omega) (by omega) rt ht ?_
    split at h
    · rename_i h5
      rw [if_pos h5]
      exact (Option.some.inj h).symm
    · rename_i h5
      rw [if_neg h5]
      exact (Option.some.inj h).symm

end Go.Proofs.Ytacdocchcfbgcaa.Q
