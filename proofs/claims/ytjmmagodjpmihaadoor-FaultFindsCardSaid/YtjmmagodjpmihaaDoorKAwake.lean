/-
  fault.Is, dolmenref5.Texts, and what dolmenlaw3's awake comes to.
-/
import Derived.Test.YtjmmagodjpmihaaDoorKFn2
set_option linter.unusedVariables false
set_option linter.unusedSimpArgs false
namespace Go.Proofs.YtjmmagodjpmihaaDoor.KA
open Go.RowKit Go.Extern.Stop Go.Stop Go.Extern Go.Extern.Rtype Go.Proofs.YtjmmagodjpmihaaDoor.KF

def oIs (o : Option Er) (c : Int) : Bool := match o with | none => false | some e => isN c e
theorem Is_o (c : Int) (o : Option Er) (v : Value) (w : World) (h : OE w o v) :
    Calls Tryd.prog 16 #[v, .iface 28 (.int .i64 c)] w fun ev w' => ev = .returned (.bool (oIs o c)) ∧ w = w' := by
  cases o with
  | none =>
    obtain rfl := (show v = .nilIface from h)
    exact Is_nil c w
  | some e => exact Is_any c e v w h
/-- Some words, some numbers, as a slice from a block's beginning. -/
def SRow {α : Type} (w : World) (enc : α → Value) (v : Value) (l : List α) : Prop := ∃ A c, v = .slice A l.length c ∧ ∀ (i : Nat) (h : i < l.length), ∃ g, A = some ⟨g, 0, none⟩ ∧ w.cell? ⟨g, i, none⟩ = some (enc l[i])
theorem srow_below {α : Type} {enc : α → Value} {w w' : World} {v : Value} {l : List α} (h : SRow w enc v l) (hb : Below w.heap.size w w') : SRow w' enc v l := by
  obtain ⟨A, c, hv, hc⟩ := h
  refine ⟨A, c, hv, fun i hi => ?_⟩
  obtain ⟨g, hg, hcell⟩ := hc i hi
  exact ⟨g, hg, (hb.cell (World.block_lt_of_cell? w _ hcell)).trans hcell⟩
theorem srow_blk {α : Type} {enc : α → Value} {w : World} {g : Nat} {l : List α} {t : TypeId} {c : Nat} (h : w.heap[g]? = some (.cells (l.map enc).toArray t (0, 0))) : SRow w enc (.slice (some ⟨g, 0, none⟩) l.length c) l :=
  ⟨_, _, rfl, fun i hi => ⟨g, rfl, by rw [blk_cell h]; simp [hi]⟩⟩
theorem srow_own {α : Type} {enc : α → Value} {w : World} {base : Nat} {e : TypeId} {v : Value} {l : List α} (h : w.ownsRow base e 1 v l.length (l.map enc)) : SRow w enc v l := by
  rcases h.2 with ⟨rfl, hl⟩ | ⟨g, cap, cur, rfl, hg, hh, h1, h2, h3, h4⟩
  · exact ⟨none, 0, by rw [hl], fun i hi => by omega⟩
  · refine ⟨_, _, rfl, fun i hi => ⟨g, rfl, ?_⟩⟩
    rw [blk_cell hh]
    have h5 : (cur.toList.take (l.length * 1))[i]? = (l.map enc)[i]? := by rw [h4]
    rw [Nat.mul_one, List.getElem?_take, if_pos hi] at h5
    rw [← Array.getElem?_toList, h5]
    simp [hi]
set_option maxHeartbeats 4000000 in
set_option maxRecDepth 100000 in
theorem isMany (o : Option Er) (v u : Value) (l : List Int) (w : World) (h : OE w o v) (hr : SRow w (Value.int .i64) u l) (hl : l.length ≤ 100000) :
    Calls Tryd.prog 19 #[v, u] w fun ev w' => ev = .returned (.bool (l.any (oIs o))) ∧ w = w' := by
  obtain ⟨A, c, rfl, hc⟩ := hr
  have HO := Asi.mk h
  have HR := Asi.mk hc
  have HL := Asi.mk hl
  clear h hc hl
  go_enter Tryd.func19, Tryd.ntmps19
  go_wp2
  go_loopg [9] (l.length) (fun kq v9 wr => ∃ i : Nat, i ≤ l.length ∧ v9 = .int .i64 i ∧ Asi (kq = l.length - i) ∧ Asi ((l.drop i).any (oIs o) = l.any (oIs o)) ∧ w = wr)
  case atStart => exact ⟨0, Nat.zero_le _, rfl, ⟨rfl⟩, ⟨rfl⟩, rfl⟩
  case round =>
    obtain ⟨i, hi, rfl, HK, HQ, rfl⟩ := hrel
    have hlb := HL.out
    by_cases hlt : i < l.length
    · have hlt' : (i : Int) < (l.length : Int) := by omega
      obtain ⟨g, rfl, hcell⟩ := HR.out i hlt
      have hq := HQ.out
      rw [List.drop_eq_getElem_cons hlt, List.any_cons] at hq
      generalize l[i] = x at *
      have HI := Asi.mk hi
      have HLT := Asi.mk hlt
      clear hi hlt HQ
      cases hx : oIs o x with
      | true =>
        have hq2 : l.any (oIs o) = true := by rw [← hq, hx]; rfl
        have HQ2 := Asi.mk hq2
        have HX := Asi.mk hx
        clear hq hq2 hx
        go_wp2_with (go_at_call 16; refine (Is_o x o v _ HO.out).mono ?_; rintro e_ w_ ⟨rfl, rfl⟩; rw [HX.out])
        go_ret
        rw [HQ2.out]
        exact ⟨rfl, rfl⟩
      | false =>
        have hq2 : (l.drop (i + 1)).any (oIs o) = l.any (oIs o) := by rw [← hq, hx]; rfl
        have HQ2 := Asi.mk hq2
        have HX := Asi.mk hx
        clear hq hq2 hx
        go_wp2_with (go_at_call 16; refine (Is_o x o v _ HO.out).mono ?_; rintro e_ w_ ⟨rfl, rfl⟩; rw [HX.out])
        obtain ⟨k1, hk1⟩ : ∃ k1, gk = k1 + 1 := ⟨gk - 1, by have := HK.out; have := HLT.out; omega⟩
        subst hk1
        go_roundg k1
        case measure => omega
        case rel => exact ⟨i + 1, HLT.out, by go_num, ⟨by have := HK.out; omega⟩, HQ2, rfl⟩
    · have hq2 : l.any (oIs o) = false := by rw [← HQ.out, List.drop_eq_nil_of_le (by omega)]; rfl
      have HQ2 := Asi.mk hq2
      have hlt' : ¬ (i : Int) < (l.length : Int) := by omega
      clear hq2 HQ
      go_wp2
      go_ret
      rw [HQ2.out]
      exact ⟨rfl, rfl⟩
set_option maxHeartbeats 4000000 in
set_option maxRecDepth 100000 in
theorem texts_same (u v : Value) (l : List ByteArray) (w : World) (hu : SRow w Value.string u l) (hv : SRow w Value.string v l) (hl : l.length ≤ 100000) :
    Calls Tryd.prog 25 #[u, v] w fun ev w' => ev = .returned (.bool true) ∧ Below w.heap.size w w' := by
  obtain ⟨A, c, rfl, hc⟩ := hu
  obtain ⟨B, d, rfl, hd⟩ := hv
  have HR := Asi.mk hc
  have HS := Asi.mk hd
  have HL := Asi.mk hl
  clear hc hd hl
  go_enter Tryd.func25, Tryd.ntmps25
  go_wp2
  go_loopg [5] (l.length) (fun kq v5 wr => ∃ i : Nat, i ≤ l.length ∧ v5 = .int .i64 i ∧ Asi (kq = l.length - i) ∧ Asi (Below w.heap.size w wr))
  case atStart => exact ⟨0, Nat.zero_le _, rfl, ⟨rfl⟩, ⟨Below.refl _ _⟩⟩
  case round =>
    obtain ⟨i, hi, rfl, HK, HB⟩ := hrel
    have hlb := HL.out
    by_cases hlt : i < l.length
    · have hlt' : (i : Int) < (l.length : Int) := by omega
      have hi0 : (0 : Int) ≤ (i : Int) := by omega
      obtain ⟨g, rfl, hcell⟩ := HR.out i hlt
      obtain ⟨g2, rfl, hcell2⟩ := HS.out i hlt
      replace hcell := (HB.out.cell (World.block_lt_of_cell? w _ hcell)).trans hcell
      replace hcell2 := (HB.out.cell (World.block_lt_of_cell? w _ hcell2)).trans hcell2
      generalize l[i] = x at *
      have HI := Asi.mk hi
      have HLT := Asi.mk hlt
      clear hi hlt
      go_wp2
      go_quiet (fail)
      go_wp2
      obtain ⟨k1, hk1⟩ : ∃ k1, gk = k1 + 1 := ⟨gk - 1, by have := HK.out; have := HLT.out; omega⟩
      subst hk1
      go_roundg k1
      case measure => omega
      case rel => exact ⟨i + 1, HLT.out, by go_num, ⟨by have := HK.out; omega⟩, ⟨⟨HB.out.os, HB.out.tape, HB.out.output, HB.out.size, HB.out.block⟩⟩⟩
    · have hlt' : ¬ (i : Int) < (l.length : Int) := by omega
      go_wp2
      go_ret
      exact ⟨rfl, HB.out⟩
def eA : Er := .fault ⟨#[97]⟩ ⟨#[47]⟩ (.fault ⟨#[98]⟩ ⟨#[47, 120]⟩ (.num 5))
theorem chA : Ch ((some eA).bind fF) [⟨#[97, 32, 47]⟩, ⟨#[98, 32, 47, 120]⟩] := .cons ⟨#[97]⟩ ⟨#[47]⟩ _ _ (.cons ⟨#[98]⟩ ⟨#[47, 120]⟩ _ _ .nil (by decide) (by decide)) (by decide) (by decide)
set_option maxHeartbeats 4000000 in
set_option maxRecDepth 100000 in
theorem awake_any (w : World) (hG : w.cell? ⟨0, 0, none⟩ = some errT) :
    Calls Tryd.prog 10 #[] w fun ev w' => ev = .returned (.bool true) ∧ Below w.heap.size w w' := by
  have HG := Asi.mk hG
  have HG0 := Asi.mk (World.block_lt_of_cell? w _ hG)
  clear hG
  go_enter Tryd.func10, Tryd.ntmps10
  go_wp2_with fail
  refine (new_any ⟨#[98]⟩ ⟨#[47, 120]⟩ (some (.num 5)) _ w rfl).mono ?_
  rintro e_ w1 ⟨u1, rfl, h1, b1⟩
  have H1 := Asi.mk h1
  have B1 := Asi.mk b1
  clear h1 b1
  go_wp2_with fail
  refine (new_any ⟨#[97]⟩ ⟨#[47]⟩ (some (.fault ⟨#[98]⟩ ⟨#[47, 120]⟩ (.num 5))) u1 w1 H1.out).mono ?_
  rintro e_ w2 ⟨u2, rfl, h2, b2⟩
  have H2 := Asi.mk (show EV w2 eA u2 from h2)
  have B2 := Asi.mk (below_step B1.out B1.out.size b2)
  obtain ⟨tt, xx, rfl⟩ := EV_iface H2.out
  have G2 := Asi.mk ((B2.out.cell HG0.out).trans HG.out)
  clear h2 b2 H1
  go_wp2_with fail
  refine (code_any (some eA) _ w2 H2.out G2.out).mono ?_
  rintro e_ w3 ⟨rfl, b3⟩
  have B3 := Asi.mk (below_step B2.out B2.out.size b3)
  have H3 := Asi.mk (EV_below H2.out b3)
  have G3 := Asi.mk ((B3.out.cell HG0.out).trans HG.out)
  clear b3
  rw [show codeE (some eA) = 5 from rfl]
  go_wp2_with fail
  refine (chain_any (some eA) _ _ w3 H3.out G3.out chA (by decide)).mono ?_
  rintro e_ w4 ⟨u4, rfl, h4, b4⟩
  have B4 := Asi.mk (below_step B3.out B3.out.size b4)
  have R4 := Asi.mk (srow_own h4)
  have H4 := Asi.mk (EV_below H3.out b4)
  clear h4 b4
  go_wp2_with fail
  have hb5 : Below w4.heap.size w4 (w4.alloc (.cells #[.string ⟨#[97, 32, 47]⟩, .string ⟨#[98, 32, 47, 120]⟩] 9)) := below_al (Below.refl _ _) (Nat.le_refl _) _
  refine (texts_same u4 (.slice (some ⟨w4.heap.size, 0, none⟩) 2 2) [⟨#[97, 32, 47]⟩, ⟨#[98, 32, 47, 120]⟩] _ (srow_below R4.out hb5) (srow_blk (enc := Value.string) (l := [⟨#[97, 32, 47]⟩, ⟨#[98, 32, 47, 120]⟩]) (heap_new _ _)) (by decide)).mono ?_
  rintro e_ w6 ⟨rfl, b6⟩
  have B6 := Asi.mk (below_step B4.out B4.out.size (below_step hb5 hb5.size b6))
  have H6 := Asi.mk (EV_below H4.out (below_step hb5 hb5.size b6))
  clear hb5 b6
  go_wp2_with fail
  refine (Is_o 5 (some eA) _ w6 H6.out).mono ?_
  rintro e_ w7 ⟨rfl, rfl⟩
  rw [show oIs (some eA) 5 = true from rfl]
  go_wp2_with fail
  refine (new_any ⟨#[97]⟩ ⟨#[47]⟩ none .nilIface w6 rfl).mono ?_
  rintro e_ w8 ⟨u8, rfl, h8, b8⟩
  obtain rfl := (show u8 = .nilIface from h8)
  have B8 := Asi.mk (below_step B6.out B6.out.size b8)
  clear h8 b8
  go_wp2
  go_ret
  exact ⟨rfl, B8.out⟩
end Go.Proofs.YtjmmagodjpmihaaDoor.KA
