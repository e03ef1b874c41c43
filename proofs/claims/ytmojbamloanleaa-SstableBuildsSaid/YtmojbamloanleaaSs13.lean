/- sstable: the builder in memory; frame (walk). -/
import Derived.Test.YtmojbamloanleaaSs12
import Derived.Lib.BufferMore
set_option linter.unusedVariables false
set_option linter.unusedSimpArgs false
namespace Go.Proofs.Ytmojbamloanleaa
open Go.RowKit
namespace Ss
open Mt Codec
theorem ownS_set {w : World} {base : Nat} {e : TypeId} {v : Value} {l : List Int} (h : OwnS w base e v l) {p : Addr} (hne : ∀ b, v.ownBlock = some b → b ≠ p.block) (x : Value) : OwnS (w.setCell p x) base e v l :=
  h.kept (gb_set (gb_refl w (some p.block)) (.inl rfl) x) (.inr fun h => hne _ h rfl)
/-- the builder at wb: its cells; its rows, of blocks from base on, apart from one another -/
structure Bu (base : Nat) (W : World) (wb : Nat) (ov bv iv lv : Value) (out body idx : List Int) (many nb : Nat) (last : List Int) : Prop where
  box : W.heap[wb]? = some (.cells #[ov, bv, iv, .int .i64 many, .int .i64 nb, lv] 66 (0, 0))
  bw : base ≤ wb
  oo : W.ownsRow base 5 1 ov out.length (out.map (Value.int .u8))
  ob : OwnS W base 5 bv body
  oi : W.ownsRow base 5 1 iv idx.length (idx.map (Value.int .u8))
  ro : Rng out
  ri : Rng idx
  ol : ∀ W', Below base W W' → IsB W' lv last
  ab : Apart ov bv
  ai : Apart ov iv
  bi : Apart bv iv
section
variable {base wb : Nat} {W W' : World} {ov bv iv lv v : Value} {out body idx out' last : List Int} {many nb : Nat}
theorem Bu.lt (h : Bu base W wb ov bv iv lv out body idx many nb last) : wb < W.heap.size := (Array.getElem?_eq_some_iff.1 h.box).1
theorem Bu.c0 (h : Bu base W wb ov bv iv lv out body idx many nb last) : W.cell? ⟨wb, 0, none⟩ = some ov := by rw [cell_of_row _ _ _ _ _ _ h.box]; rfl
theorem Bu.c1 (h : Bu base W wb ov bv iv lv out body idx many nb last) : W.cell? ⟨wb, 1, none⟩ = some bv := by rw [cell_of_row _ _ _ _ _ _ h.box]; rfl
theorem Bu.c2 (h : Bu base W wb ov bv iv lv out body idx many nb last) : W.cell? ⟨wb, 2, none⟩ = some iv := by rw [cell_of_row _ _ _ _ _ _ h.box]; rfl
theorem Bu.c3 (h : Bu base W wb ov bv iv lv out body idx many nb last) : W.cell? ⟨wb, 3, none⟩ = some (.int .i64 many) := by rw [cell_of_row _ _ _ _ _ _ h.box]; rfl
theorem Bu.c4 (h : Bu base W wb ov bv iv lv out body idx many nb last) : W.cell? ⟨wb, 4, none⟩ = some (.int .i64 nb) := by rw [cell_of_row _ _ _ _ _ _ h.box]; rfl
theorem Bu.c5 (h : Bu base W wb ov bv iv lv out body idx many nb last) : W.cell? ⟨wb, 5, none⟩ = some lv := by rw [cell_of_row _ _ _ _ _ _ h.box]; rfl
theorem Bu.fz (h : Bu base W wb ov bv iv lv out body idx many nb last) (i : Nat) : W.frozen? ⟨wb, i, none⟩ = false := frozen_of_row _ _ _ _ _ h.box
theorem Bu.ne {b : Nat} {cur : Array Value} {fr : Nat × Nat} (h : Bu base W wb ov bv iv lv out body idx many nb last) (hb : W.heap[b]? = some (.cells cur 5 fr)) : b ≠ wb := by
  rintro rfl
  exact absurd (types_apart hb h.box) (by decide)
theorem Bu.neO (h : Bu base W wb ov bv iv lv out body idx many nb last) : ∀ b, ov.ownBlock = some b → b ≠ wb := fun b hb => by
  obtain ⟨-, -, cur, k⟩ := own_typed h.oo b hb
  exact h.ne k
theorem Bu.neI (h : Bu base W wb ov bv iv lv out body idx many nb last) : ∀ b, iv.ownBlock = some b → b ≠ wb := fun b hb => by
  obtain ⟨-, -, cur, k⟩ := own_typed h.oi b hb
  exact h.ne k
theorem Bu.neB (h : Bu base W wb ov bv iv lv out body idx many nb last) : ∀ b, bv.ownBlock = some b → b ≠ wb := fun b hb => by
  obtain ⟨cur, k⟩ := h.ob.typed b hb
  exact h.ne k
theorem apart_no {v u : Value} (h : Apart v u) : ∀ b, v.ownBlock = some b → ¬ u.ownBlock = some b := fun b h1 h2 => by
  rcases h with h3 | h3
  · rw [h3] at h1; cases h1
  · exact h3 (h1.trans h2.symm)
/-- a call that turns no block that was there -/
theorem Bu.below (h : Bu base W wb ov bv iv lv out body idx many nb last) (hb : Below W.heap.size W W') : Bu base W' wb ov bv iv lv out body idx many nb last :=
  ⟨(hb.block _ h.lt).trans h.box, h.bw, own_below h.oo hb, h.ob.below hb, own_below h.oi hb, h.ro, h.ri, fun W2 k => h.ol W2 ((hb.mono (Nat.le_trans h.bw (Nat.le_of_lt h.lt))).trans k), h.ab, h.ai, h.bi⟩
/-- a new value in cell 0: a row that has grown from the one in it -/
theorem Bu.set0 (h : Bu base W wb ov bv iv lv out body idx many nb last) (o : W'.ownsRow base 5 1 v out'.length (out'.map (Value.int .u8))) (r : Rng out') (c : Chg (fun b => ov.ownBlock = some b) W W') (k : v.ownBlock = ov.ownBlock ∨ ∃ b, v.ownBlock = some b ∧ W.heap.size ≤ b) :
    Bu base (W'.setCell ⟨wb, 0, none⟩ v) wb v bv iv lv out' body idx many nb last := by
  have hx : W'.heap[wb]? = some (.cells #[ov, bv, iv, .int .i64 many, .int .i64 nb, lv] 66 (0, 0)) := (c.block wb h.lt (fun e => h.neO wb e rfl)).trans h.box
  have hv : v.ownBlock ≠ some wb := fun e => by
    rcases k with k | ⟨b, k, hb⟩
    · exact h.neO wb (k.symm.trans e) rfl
    · rw [k] at e
      have := h.lt
      cases e
      omega
  refine ⟨?_, h.bw, own_set_other o hv _, ?_, own_set_other (c.own h.oi (fun b h1 h2 => apart_no h.ai b h2 h1)) (fun e => h.neI wb e rfl) _, r, h.ri, fun W2 k2 => h.ol W2 ?_, apart_new h.ab k (fun b hb => (h.ob.lt b hb).2), apart_new h.ai k (fun b hb => (h.oi.lt b hb).2), h.bi⟩
  · exact heap_setCell_same _ _ _ _ _ _ hx
  · exact ownS_set (c.ownS h.ob (fun b h1 h2 => apart_no h.ab b h2 h1)) (p := ⟨wb, 0, none⟩) (fun b e => h.neB b e) _
  · exact ((c.below (B := base) (Nat.le_trans h.bw (Nat.le_of_lt h.lt)) (fun b hb e => by have := (h.oo.lt b e).1; omega)).setCell (show base ≤ wb from h.bw) _).trans k2
end
/-- what a call on the builder does: the new values; what turns is the box and the two rows that grow -/
def BuP (base wb : Nat) (ov iv : Value) (out body idx : List Int) (many nb : Nat) (last : List Int) (w : World) (e : Ending) (w' : World) : Prop :=
  e = .returned (.tuple #[]) ∧ (∃ ov' bv' iv' lv', Bu base w' wb ov' bv' iv' lv' out body idx many nb last ∧ (∀ b, b < w.heap.size → (ov'.ownBlock = some b → ov.ownBlock = some b) ∧ (iv'.ownBlock = some b → iv.ownBlock = some b))) ∧ Chg (fun b => b = wb ∨ ov.ownBlock = some b ∨ iv.ownBlock = some b) w w'
set_option maxRecDepth 100000 in
set_option maxHeartbeats 4000000 in
theorem frame_any (base wb : Nat) (ov bv iv lv fv : Value) (out body idx last x : List Int) (many nb : Nat) (k : Int) (w : World) (h : Bu base w wb ov bv iv lv out body idx many nb last) (hk : 0 ≤ k ∧ k ≤ 255) (hx : IsB w fv x) (hl : out.length ≤ 70368744177664) (hbl : x.length ≤ 2097152) :
    Calls Try.prog 64 #[.pointer (some ⟨wb, 0, none⟩), .int .u8 k, fv] w (BuP base wb ov iv (out ++ frameF k x) body idx many nb last w) := by
  obtain ⟨i0, hi0, hz0, hz1, hz2⟩ := info_parts infoU8
  have HI := Lib.hid hi0; have HZ0 := Lib.hid hz0; have HZ1 := Lib.hid hz1; have HZ2 := Lib.hid hz2
  obtain ⟨oo, oc, rfl, -, -, -, -⟩ := own_form h.oo
  obtain ⟨fo, fc, rfl, -, -, -⟩ := hx.form
  have HF := Lib.hid (frame_ok k hk _ x w hx hbl)
  have HR := Lib.hid (frame_rng hk hx.rng)
  have HFL := Lib.hid (frame_le (k := k) hbl)
  have H := Lib.hid h
  clear hi0 hz0 hz1 hz2 h hx
  go_enter Try.func64, Try.ntmps64
  go_wp2_with fail
  refine HF.out.mono ?_
  unfold FramePost
  rintro e w1 ⟨v1, rfl, ho1, hb1⟩
  obtain ⟨fo, fc, rfl, -, -, -, -⟩ := own_form ho1
  have N1 := Lib.hid (IsB.of_own ho1 HR.out)
  have B1 := Lib.hid hb1
  have H1 := Lib.hid (H.out.below hb1)
  have c0 := H1.out.c0
  clear ho1 hb1 HF
  go_wp2_with (at_builtin; refine wpList_append_bytes' (w := w1) (base := base) (.tmp 18) (.tmp 19) _ rfl rfl i0 _ Try.underlying25 HI.out HZ0.out HZ1.out HZ2.out rfl _ out (frameF k x) rfl rfl H1.out.oo N1.out (by have := HFL.out; omega) (by have := H1.out.lt; have := H1.out.bw; omega) ?_; intro v2 w2 ho2 hg2 hk2; have O2 : Hid (w2.ownsRow base 5 1 v2 (out ++ frameF k x).length ((out ++ frameF k x).map (Value.int .u8))) := Lib.hid (by rw [List.length_append]; exact ho2); obtain ⟨o2, c2, rfl, -, -, -, -⟩ := own_form O2.out; have G2 : Hid (Chg (fun b => (Value.slice oo out.length oc).ownBlock = some b) w1 w2) := Lib.hid (Chg.of_grown hg2 (fun b _ e => e)); have K2 : Hid ((Value.slice o2 (out ++ frameF k x).length c2).ownBlock = (Value.slice oo out.length oc).ownBlock ∨ ∃ b, (Value.slice o2 (out ++ frameF k x).length c2).ownBlock = some b ∧ w1.heap.size ≤ b) := Lib.hid (by rcases hk2 with h | h; exact .inl h; exact .inr ⟨_, h, Nat.le_refl _⟩); have H2 := Lib.hid (H1.out.set0 O2.out (H1.out.ro.append HR.out) G2.out K2.out); have d0 : w2.cell? ⟨wb, 0, none⟩ = some (Value.slice oo out.length oc) := (G2.out.cell H1.out.lt (fun e => H1.out.neO wb e rfl)).trans c0; have z0 : w2.frozen? ⟨wb, 0, none⟩ = false := (G2.out.frozen H1.out.lt (fun e => H1.out.neO wb e rfl)).trans (H1.out.fz 0); clear ho2 hg2 hk2)
  have GA : Hid (Chg (fun b => b = wb ∨ (Value.slice oo out.length oc).ownBlock = some b ∨ iv.ownBlock = some b) w (w2.setCell ⟨wb, 0, none⟩ (Value.slice o2 (out ++ frameF k x).length c2))) := Lib.hid (((Chg.of_ext B1.out).trans (G2.out.mono (fun b _ e => .inr (.inl e)))).set (p := ⟨wb, 0, none⟩) (fun _ => .inl rfl) _)
  have KA : Hid (∀ b, b < w.heap.size → ((Value.slice o2 (out ++ frameF k x).length c2).ownBlock = some b → (Value.slice oo out.length oc).ownBlock = some b) ∧ (iv.ownBlock = some b → iv.ownBlock = some b)) := Lib.hid (fun b hb => ⟨fun e => by
    rcases K2.out with k | ⟨c, k, hc⟩
    · exact k.symm.trans e
    · rw [k] at e
      cases e
      have := B1.out.size
      omega, id⟩)
  have FIN : Hid (∀ n, n = (out ++ frameF k x).length → BuP base wb (Value.slice oo out.length oc) iv (out ++ frameF k x) body idx many nb last w (.returned (.tuple #[])) (w2.setCell ⟨wb, 0, none⟩ (.slice o2 n c2))) := Lib.hid (by
    rintro n rfl
    exact ⟨rfl, ⟨_, _, _, _, H2.out, KA.out⟩, GA.out⟩)
  go_end0
  exact FIN.out _ (by rw [List.length_append])
end Ss
end Go.Proofs.Ytmojbamloanleaa
