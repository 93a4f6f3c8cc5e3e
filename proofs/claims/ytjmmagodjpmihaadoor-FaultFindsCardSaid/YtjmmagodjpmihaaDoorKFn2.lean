/-
  fault.Op, fault.Chain, fault.Inner, fault.Is, at any error.
-/
import Derived.Test.YtjmmagodjpmihaaDoorKFn
import Derived.Deep.RegionHeld3
import Derived.Deep.AppendLies
import Derived.Deep.QuietTactic
import Derived.BigQuiet
import Derived.OwnWalk
set_option linter.unusedVariables false
set_option linter.unusedSimpArgs false
namespace Go.Proofs.YtjmmagodjpmihaaDoor.KA
open Go.RowKit Go.Extern.Stop Go.Stop Go.Extern Go.Extern.Rtype Go.Proofs.YtjmmagodjpmihaaDoor.KF

/-- No word is too long. -/
def Er.ok : Er → Prop
  | .num _ => True
  | .fault op path e => op.size ≤ 100000 ∧ path.size ≤ 100000 ∧ e.ok
  | .pair a c => a.ok ∧ c.ok
  | .plain _ => True
/-- The Faults from one inward, as words. -/
inductive Ch : Option (ByteArray × ByteArray × Er) → List ByteArray → Prop where
  | nil : Ch none []
  | cons (op path : ByteArray) (e : Er) (l : List ByteArray) (h : Ch (fF e) l) (h1 : op.size ≤ 100000) (h2 : path.size ≤ 100000) : Ch (some (op, path, e)) ((op ++ ⟨#[32]⟩ ++ path) :: l)
theorem fF_sz : ∀ {e : Er} {x : ByteArray × ByteArray × Er}, fF e = some x → x.2.2.sz < e.sz
  | .num _, _, h => by cases h
  | .fault op path e, x, h => by cases h; simp [Er.sz]
  | .pair a c, x, h => by
    have h' : (fF a).orElse (fun _ => fF c) = some x := h
    cases q : fF a with
    | some y =>
      rw [q] at h'
      cases h'
      have := fF_sz q
      simp [Er.sz]; omega
    | none =>
      rw [q] at h'
      have := fF_sz (show fF c = some x from h')
      simp [Er.sz]; omega
  | .plain _, _, h => by cases h
theorem fF_ok : ∀ {e : Er} {x : ByteArray × ByteArray × Er}, fF e = some x → e.ok → x.1.size ≤ 100000 ∧ x.2.1.size ≤ 100000 ∧ x.2.2.ok
  | .num _, _, h, _ => by cases h
  | .fault op path e, x, h, ho => by cases h; exact ho
  | .pair a c, x, h, ho => by
    have h' : (fF a).orElse (fun _ => fF c) = some x := h
    cases q : fF a with
    | some y =>
      rw [q] at h'
      cases h'
      exact fF_ok q ho.1
    | none =>
      rw [q] at h'
      exact fF_ok (show fF c = some x from h') ho.2
  | .plain _, _, h, _ => by cases h
theorem Ch_ex : ∀ (n : Nat) (e : Er), e.sz ≤ n → e.ok → ∃ l, Ch (fF e) l ∧ l.length ≤ n
  | 0, e, h, _ => by have := e.sz_pos; omega
  | n + 1, e, h, ho => by
    cases q : fF e with
    | none => exact ⟨[], .nil, by simp⟩
    | some x =>
      obtain ⟨op, path, e1⟩ := x
      have h1 := fF_sz q
      obtain ⟨h3, h4, h5⟩ := fF_ok q ho
      obtain ⟨l, hl, hn⟩ := Ch_ex n e1 (by simp at h1; omega) h5
      exact ⟨_, .cons op path e1 l hl h3 h4, by simp; omega⟩
theorem infoS : (Tryd.prog.info? 9).map (fun i => (i.zero, i.size, i.bytes)) = some (some (.string ⟨#[]⟩), 1, 16) := by kernel_rfl
theorem own_lo {w : World} {base : Nat} {e : TypeId} {size n : Nat} {v : Value} {xs : List Value} (h : w.ownsRow base e size v n xs) (k : Nat) (hk : v.ownBlock = some k) : base ≤ k := by
  rcases h.2 with ⟨rfl, _⟩ | ⟨g, cap, cur, rfl, hg, hh, r⟩
  · simp [Value.ownBlock] at hk
  · have : g = k := by simpa [Value.ownBlock] using hk
    omega
set_option maxHeartbeats 4000000 in
set_option maxRecDepth 100000 in
theorem chain_any (o : Option Er) (v : Value) (L : List ByteArray) (w : World) (h : OE w o v) (hG : w.cell? ⟨0, 0, none⟩ = some errT) (hL : Ch (o.bind fF) L) (hl : L.length ≤ 100000) :
    Calls Tryd.prog 13 #[v] w fun ev w' => ∃ u, ev = .returned u ∧ w'.ownsRow w.heap.size 9 1 u L.length (L.map Value.string) ∧ Below w.heap.size w w' := by
  have HO := Asi.mk h
  have HG := Asi.mk hG
  have HL := Asi.mk hL
  have HLn := Asi.mk hl
  have HG0 := Asi.mk (World.block_lt_of_cell? w _ hG)
  clear h hG hL hl
  obtain ⟨i0, hi, hz0, hz1, hz2⟩ := info_parts infoS
  have HI := Asi.mk hi
  have HZ := Asi.mk (And.intro hz0 (And.intro hz1 hz2))
  clear hi hz0 hz1 hz2
  go_enter Tryd.func13, Tryd.ntmps13
  go_wp2_with (go_at_call 27; refine (first_any o v w _ (Below.refl _ _) HO.out HG.out).mono ?_; rintro e_ w1 ⟨u, rfl, hu, hb⟩; have HU := Asi.mk hu; have HB1 := Asi.mk hb; clear hu hb)
  go_loopg [2, 3] (L.length) (fun kq v2 v3 wr => ∃ (x : Option (ByteArray × ByteArray × Er)) (acc rest : List ByteArray), Asi (FirstP w x v3) ∧ Asi (Ch x rest) ∧ Asi (L = acc ++ rest) ∧ Asi (rest.length ≤ kq) ∧ Asi (wr.ownsRow w.heap.size 9 1 v2 acc.length (acc.map Value.string)) ∧ Asi (Below w.heap.size w wr))
  case atStart => exact ⟨_, [], L, HU, HL, ⟨rfl⟩, ⟨Nat.le_refl _⟩, ⟨World.ownsRow_nil _ _ _ _⟩, HB1⟩
  case round =>
    clear HU HL HB1 HO
    obtain ⟨x, acc, rest, HU, HC, HQ, HK, HW, HB⟩ := hrel
    cases x with
    | none =>
      have hr : rest = [] := by cases HC.out; rfl
      subst hr
      obtain rfl := (show _ = Value.pointer none from HU.out)
      have hq : L = acc := by have := HQ.out; rw [List.append_nil] at this; exact this
      have HQ2 := Asi.mk hq
      clear hq
      go_wp2
      go_ret
      exact ⟨_, rfl, by rw [HQ2.out]; exact HW.out, HB.out⟩
    | some x =>
      obtain ⟨op, path, e1⟩ := x
      obtain ⟨p, rfl, hev⟩ := HU.out
      obtain ⟨b, ve, hbe, hblk, hve⟩ := hev
      obtain rfl : p = b := by injection hbe with h1 h2; injection h2 with h2; injection h2 with h2; injection h2
      obtain ⟨l, rfl, hch, hz1, hz2⟩ : ∃ l, rest = (op ++ ⟨#[32]⟩ ++ path) :: l ∧ Ch (fF e1) l ∧ op.size ≤ 100000 ∧ path.size ≤ 100000 := by cases HC.out with | cons op path e l h h1 h2 => exact ⟨l, rfl, h, h1, h2⟩
      have hs1 : op.size + 1 ≤ 9223372036854775807 := by omega
      have hs2 : op.size + 1 + path.size ≤ 9223372036854775807 := by omega
      have hcat1 : ∀ W : World, (Op.stringOp .add op ⟨#[32]⟩).run Tryd.prog W = .ok (.string (op ++ ⟨#[32]⟩)) W := fun W => run_string_add_sum W _ _ (by show op.size + 1 ≤ _; omega)
      have hcat2 : ∀ W : World, (Op.stringOp .add (op ++ ⟨#[32]⟩) path).run Tryd.prog W = .ok (.string (op ++ ⟨#[32]⟩ ++ path)) W := fun W => run_string_add_sum W _ _ (by rw [ByteArray.size_append]; show op.size + 1 + path.size ≤ _; omega)
      clear hz1 hz2
      have HCH := Asi.mk hch
      have HVE := Asi.mk hve
      have HP := Asi.mk (lt_of hblk)
      have hblk' := (HB.out.block p (lt_of hblk)).trans hblk
      have c0 := blk_cell hblk' 0
      have c1 := blk_cell hblk' 1
      have HBLK := Asi.mk hblk'
      have HN : Asi (acc.length + 1 ≤ 100000) := ⟨by have h1 := HLn.out; have h2 := HQ.out; rw [h2, List.length_append, List.length_cons] at h1; omega⟩
      have hak : ∀ k, Value.ownBlock _ = some k → w.heap.size ≤ k := own_lo HW.out
      have HAK := Asi.mk hak
      have HWS := Asi.mk HB.out.size
      clear hbe hblk hve hch hblk' hak
      have hn1 : acc.length + 1 ≤ maxLen := by have := HN.out; unfold maxLen; omega
      have hn2 : (acc.length + 1) * 16 ≤ 140737488355328 := by have := HN.out; omega
      have HN1 := Asi.mk hn1
      have HN2 := Asi.mk hn2
      have HNE : Asi (∀ q, Value.ownBlock u2 = some q → q ≠ p) := ⟨fun q hq e => by have h1 := HAK.out q hq; have h2 := HP.out; omega⟩
      clear hn1 hn2
      go_wp2_with fail
      go_region_held3 (fun w' => w'.cell? ⟨p, 0, none⟩ = some (.string op) ∧ w'.cell? ⟨p, 1, none⟩ = some (.string path))
        (first
          | go_keep
          | (go_split_ands
             refine ⟨?_, ?_⟩
             · (rw [hgrow.cell_far _ (by have := HP.out; have := HWS.out; simp; omega) (fun e_ => HNE.out p e_.symm rfl)]; assumption)
             · (rw [hgrow.cell_far _ (by have := HP.out; have := HWS.out; simp; omega) (fun e_ => HNE.out p e_.symm rfl)]; assumption)))
        ((refine step_append_lies _ (by rfl) _ _ _ (by rfl) w.heap.size 9 i0 _ 1 16 Tryd.underlying33 HI.out HZ.out.1 HZ.out.2.1 HZ.out.2.2 rfl (by omega) u2 acc.length (acc.map Value.string) (by rfl) ((HW.out.alloc _).drew)
            ⟨wr.heap.size, 0, none⟩ 1 1 [.string (op ++ ⟨#[32]⟩ ++ path)] (by rfl) (by rfl) (World.news_of_block (cs := #[.string (op ++ ⟨#[32]⟩ ++ path)]) (t := 9) (fr := (0, 0)) (heap_new wr _)) (by simp [Value.oneCell'])
            (by omega) HN1.out HN2.out (by have := HWS.out; simp; omega) (wr.heap.size + 1) (by simp) ?_; intro gg cap w1 hown1 hgrow hat hlt))
      have hbA : Below w.heap.size w (wr.alloc (.cells #[.string (op ++ ⟨#[32]⟩ ++ path)] 9)) := below_al HB.out HB.out.size _
      have hbD : Below w.heap.size w (wr.alloc (.cells #[.string (op ++ ⟨#[32]⟩ ++ path)] 9)).drew := ⟨hbA.os, hbA.tape, hbA.output, hbA.size, hbA.block⟩
      have hb1 : Below w.heap.size w w1 := hbD.grown hgrow hbD.size (fun q hq => HAK.out q hq)
      have HB1 := Asi.mk hb1
      have hblk0 : (wr.alloc (.cells #[.string (op ++ (⟨#[32]⟩ : ByteArray) ++ path)] 9)).drew.heap[p]? = some (.cells #[.string op, .string path, ve] 31 (0, 0)) := (alloc_lt wr (.cells #[.string (op ++ (⟨#[32]⟩ : ByteArray) ++ path)] 9) (lt_of HBLK.out)).trans HBLK.out
      have hblk1 : w1.heap[p]? = some (.cells #[.string op, .string path, ve] 31 (0, 0)) := (hgrow.block p (by have := HP.out; have := HWS.out; simp; omega) (fun e_ => HNE.out p e_.symm rfl)).trans hblk0
      have d2 := blk_cell hblk1 2
      have HW1 := Asi.mk hown1
      have HGr := Asi.mk ((hb1.cell HG0.out).trans HG.out)
      clear hbA hbD hb1 hblk0 hblk1 hown1 hgrow hat hlt c0 c1 hs1 hs2
      go_wp2_with (go_at_call 27; refine (first_any (some e1) ve w _ HB1.out HVE.out HGr.out).mono ?_; rintro e_ w2 ⟨u, rfl, hu, hb⟩; have HU2 := Asi.mk hu; have HB2 := Asi.mk (below_step HB1.out HB1.out.size hb); have HW2 := Asi.mk (HW1.out.kept (row := none) ⟨hb.os, hb.tape, hb.output, hb.size, fun i hi _ => hb.block i hi⟩ (Or.inr (by simp [Value.ownBlock]))); clear hu hb)
      obtain ⟨k1, rfl⟩ : ∃ k1, gk = k1 + 1 := ⟨gk - 1, by have h_ := HK.out; simp at h_; omega⟩
      go_roundg k1
      case measure => omega
      case rel => exact ⟨_, acc ++ [op ++ ⟨#[32]⟩ ++ path], l, HU2, HCH, ⟨by rw [List.append_assoc]; exact HQ.out⟩, ⟨by have h_ := HK.out; simp at h_; omega⟩, ⟨by rw [List.length_append, List.map_append]; exact HW2.out⟩, HB2⟩
set_option maxHeartbeats 4000000 in
set_option maxRecDepth 100000 in
theorem op_any (o : Option Er) (v : Value) (w : World) (h : OE w o v) (hG : w.cell? ⟨0, 0, none⟩ = some errT) :
    Calls Tryd.prog 12 #[v] w fun ev w' => ev = .returned (match o.bind fF with | none => .tuple #[.string ⟨#[]⟩, .string ⟨#[]⟩, .bool false] | some x => .tuple #[.string x.1, .string x.2.1, .bool true]) ∧ Below w.heap.size w w' := by
  have HO := Asi.mk h
  have HG := Asi.mk hG
  clear h hG
  have hf := first_any o v w w (Below.refl _ _) HO.out HG.out
  have HF := Asi.mk hf
  clear hf
  cases q : o.bind fF with
  | none =>
    have Q := Asi.mk q
    clear q
    go_enter Tryd.func12, Tryd.ntmps12
    go_wp2_with (go_at_call 27; refine HF.out.mono ?_; rintro e_ w1 ⟨u, rfl, hu, hb⟩; rw [Q.out] at hu; obtain rfl := (show u = Value.pointer none from hu); have HB1 := Asi.mk hb; clear hu hb)
    go_ret3
    exact ⟨rfl, HB1.out⟩
  | some x =>
    have Q := Asi.mk q
    clear q
    obtain ⟨op, path, e1⟩ := x
    go_enter Tryd.func12, Tryd.ntmps12
    go_wp2_with (go_at_call 27; refine HF.out.mono ?_; rintro e_ w1 ⟨u, rfl, hu, hb⟩; rw [Q.out] at hu; obtain ⟨p, rfl, b, ve, hbe, hblk, hve⟩ := hu; obtain rfl : p = b := (by injection hbe with h1 h2; injection h2 with h2; injection h2 with h2; injection h2); have hblk1 := (hb.block p (lt_of hblk)).trans hblk; have c0 := blk_cell hblk1 0; have c1 := blk_cell hblk1 1; have HB1 := Asi.mk hb; clear hve hbe hblk hblk1 hb)
    go_quiet (fail)
    go_wp2
    go_ret3
    exact ⟨rfl, ⟨HB1.out.os, HB1.out.tape, HB1.out.output, HB1.out.size, HB1.out.block⟩⟩
def Er.inner : Er → Er
  | .fault _ _ e => e.inner
  | e => e
set_option maxHeartbeats 4000000 in
set_option maxRecDepth 100000 in
theorem inner_any (o : Option Er) (v : Value) (w : World) (h : OE w o v) :
    Calls Tryd.prog 14 #[v] w fun ev w' => ∃ u, ev = .returned u ∧ OE w (o.map Er.inner) u ∧ w = w' := by
  have HO := Asi.mk h
  clear h
  go_enter Tryd.func14, Tryd.ntmps14
  go_wp2_with (go_at_call 28; refine (unwrap_any o v _ HO.out).mono ?_; rintro e_ w1 ⟨u, rfl, hu, rfl⟩; have HU := Asi.mk hu; clear hu)
  go_loopg [0, 3] ((o.map Er.sz).getD 0) (fun kq v0 v3 wr => ∃ oo : Option Er, Asi (OE w oo v0) ∧ Asi (OE w (oUnw oo) v3) ∧ Asi (oo.map Er.inner = o.map Er.inner) ∧ Asi ((oo.map Er.sz).getD 0 ≤ kq) ∧ w = wr)
  case atStart => exact ⟨o, HO, HU, ⟨rfl⟩, ⟨Nat.le_refl _⟩, rfl⟩
  case round =>
    clear HO HU
    obtain ⟨oo, HO, HU, HQ, HK, rfl⟩ := hrel
    cases q : oUnw oo with
    | none =>
      have hu := HU.out
      rw [q] at hu
      obtain rfl := (show _ = Value.nilIface from hu)
      have hi : oo.map Er.inner = oo := by
        cases oo with
        | none => rfl
        | some e => cases e <;> first | rfl | cases q
      have HI := Asi.mk hi
      clear HU hu q hi
      go_wp2
      go_ret
      exact ⟨_, rfl, by rw [← HQ.out, HI.out]; exact HO.out, rfl⟩
    | some e1 =>
      obtain ⟨op, path, rfl⟩ : ∃ op path, oo = some (.fault op path e1) := by
        cases oo with
        | none => cases q
        | some e => cases e with
          | fault op path e => cases q; exact ⟨op, path, rfl⟩
          | num n => cases q
          | pair a c => cases q
          | plain s => cases q
      clear q
      have HE1 := Asi.mk (show EV w e1 _ from HU.out)
      obtain ⟨tt, xx, rfl⟩ := EV_iface HE1.out
      clear HU
      go_wp2_with (go_at_call 28; refine (unwrap_any (some e1) _ _ HE1.out).mono ?_; rintro e_ w1 ⟨u, rfl, hu, rfl⟩; have HU1 := Asi.mk hu; clear hu)
      obtain ⟨k1, rfl⟩ : ∃ k1, gk = k1 + 1 := ⟨gk - 1, by have h_ := HK.out; simp [Er.sz] at h_; omega⟩
      go_roundg k1
      case measure => omega
      case rel => exact ⟨some e1, HE1, HU1, HQ, ⟨by have h_ := HK.out; simp [Er.sz] at h_; simp; omega⟩, rfl⟩
end Go.Proofs.YtjmmagodjpmihaaDoor.KA
