/- sstable: how long a table is, plain. sstable: the builder in memory; frame (walk). sstable: a block is closed (walk). -/
import Derived.Test.YtmojbamloanleaaSs11
import Derived.Lib.BufferMore
set_option linter.unusedVariables false
set_option linter.unusedSimpArgs false
namespace Go.Proofs.Ytmojbamloanleaa
open Go.RowKit
namespace Ss
open Mt Codec
theorem lay_val (a : List Int) (e : En) : e.2.2.2.length ≤ (layS a e).length := by
  unfold layS
  simp only [List.length_append]
  omega
theorem body_val : ∀ (bl : List En) (p : List Int × List Int), p.1.length + valF bl ≤ (bl.foldl (fun p e => (p.1 ++ layS p.2 e, e.1)) p).1.length
  | [], p => by simp [valF]
  | e :: r, p => by
    have h1 := body_val r (p.1 ++ layS p.2 e, e.1)
    have h2 := lay_val p.2 e
    simp only [List.foldl_cons]
    simp only [List.length_append] at h1
    have h3 : valF (e :: r) = e.2.2.2.length + valF r := by simp [valF]
    omega
theorem frame_ge (k : Int) (l : List Int) : l.length ≤ (frameF k l).length := by
  unfold frameF
  simp only [List.length_append]
  omega
theorem done_val : ∀ (d : List (List En)) (p : List Int × List Int), p.1.length + (d.map valF).sum ≤ (d.foldl blkF p).1.length
  | [], p => by simp
  | b :: r, p => by
    have h1 := done_val r (blkF p b)
    have h2 := frame_ge 68 (bodyF b).1
    have h3 := body_val b ([], [])
    have h4 : (blkF p b).1.length = p.1.length + (frameF 68 (bodyF b).1).length := by simp [blkF]
    have h5 : valF b ≤ (bodyF b).1.length := by unfold bodyF; simpa using h3
    simp only [List.foldl_cons, List.map_cons, List.sum_cons]
    omega
theorem val_append (a b : List En) : valF (a ++ b) = valF a + valF b := by simp [valF]
theorem val_flat : ∀ d : List (List En), valF d.flatten = (d.map valF).sum
  | [] => rfl
  | b :: r => by rw [List.flatten_cons, val_append, val_flat r]; rfl
theorem done_tab (l : List En) (D : List (List En)) (bn pn : Nat) : (doneF D).1.length ≤ (tableF l D bn pn).length := by
  unfold tableF out2 out1
  simp only [List.length_append]
  omega
theorem val_tab (l : List En) (bb : Int) (bn pn : Nat) : valF l ≤ (tableF l (blksF l bb) bn pn).length := by
  have h1 := done_val (blksF l bb) ([], [])
  have h2 := val_flat (blksF l bb)
  have h3 : (blksF l bb).flatten = l := part_flat bb l
  have h4 := done_tab l (blksF l bb) bn pn
  rw [h3] at h2
  unfold doneF at h4
  simp only [List.length_nil] at h1
  omega
theorem part_pre (bb : Int) : ∀ (l : List En) (p : List (List En) × List En), ∃ R, (l.foldl (stepP bb) p).1 = p.1 ++ R
  | [], p => ⟨[], by simp⟩
  | e :: r, p => by
    obtain ⟨R, h⟩ := part_pre bb r (stepP bb p e)
    rw [List.foldl_cons, h]
    unfold stepP
    split
    · exact ⟨[p.2] ++ R, by simp⟩
    · exact ⟨R, rfl⟩
theorem part_take (bb : Int) (l : List En) (k : Nat) : ∃ R, blksF l bb = (partF bb (l.take k)).1 ++ R := by
  obtain ⟨R, h⟩ := part_pre bb (l.drop k) (partF bb (l.take k))
  refine ⟨R ++ [(partF bb l).2], ?_⟩
  have h2 : partF bb l = (l.drop k).foldl (stepP bb) (partF bb (l.take k)) := by
    unfold partF
    rw [← List.foldl_append, List.take_append_drop]
  unfold blksF
  rw [← List.append_assoc, ← h, ← h2]
theorem done_pre (D R : List (List En)) : (doneF D).1.length ≤ (doneF (D ++ R)).1.length := by
  have h := done_val R (doneF D)
  unfold doneF at h ⊢
  rw [List.foldl_append]
  omega
theorem out_le (l : List En) (bb : Int) (k bn pn : Nat) : (doneF (partF bb (l.take k)).1).1.length ≤ (tableF l (blksF l bb) bn pn).length := by
  obtain ⟨R, h⟩ := part_take bb l k
  have h1 := done_pre (partF bb (l.take k)).1 R
  have h2 := done_tab l (blksF l bb) bn pn
  rw [← h] at h1
  omega
theorem code_end {l : List En} {bb pk : Int} (h : codeF l bb pk = if 4194304 < valF l ∨ 2097152 < (idxF (blksF l bb)).length ∨ 4194304 < (tableF l (blksF l bb) bb.toNat pk.toNat).length then 43 else 0) :
    codeF l bb pk = if 2097152 < (idxF (blksF l bb)).length ∨ 4194304 < (tableF l (blksF l bb) bb.toNat pk.toNat).length then 43 else 0 := by
  rw [h]
  have h1 := val_tab l bb bb.toNat pk.toNat
  by_cases h2 : 4194304 < valF l
  · rw [if_pos (Or.inl h2), if_pos (Or.inr (by omega))]
  · simp [h2]
theorem code_long {l : List En} {bb pk : Int} (h : codeF l bb pk = if 4194304 < valF l ∨ 2097152 < (idxF (blksF l bb)).length ∨ 4194304 < (tableF l (blksF l bb) bb.toNat pk.toNat).length then 43 else 0)
    (k : Nat) (hk : 4194304 < (doneF (partF bb (l.take k)).1).1.length) : codeF l bb pk = 43 := by
  have h1 := out_le l bb k bb.toNat pk.toNat
  rw [h, if_pos (Or.inr (Or.inr (by omega)))]
end Ss
end Go.Proofs.Ytmojbamloanleaa
namespace Go.Proofs.Ytmojbamloanleaa
open Go.RowKit
namespace Ss
open Mt Codec
theorem ownS_set {w : World} {base : Nat} {e : TypeId} {v : Value} {l : List Int} (h : OwnS w base e v l) {p : Addr} (hne : ∀ b, v.ownBlock = some b → b ≠ p.block) (x : Value) : OwnS (w.setCell p x) base e v l :=
  h.kept (gb_set (gb_refl w (some p.block)) (.inl rfl) x) (.inr fun h => hne _ h rfl)
/-- the builder at wb: its cells; its rows, of blocks from base on, apart from one another -/
structure Bu (base : Nat) (W : World) (wb : Nat) (ov bv iv lv : Value) (out body idx : List Int) (many nb : Nat) (last : List Int) : Prop where
  box : W.heap[wb]? = some (.cells #[ov, bv, iv, .int .i64 many, .int .i64 nb, lv] 66 (0, 0))
  bw : base ≤ wb
  oo : W.ownsRow base 5 1 ov out.length (out.map (Value.int .u8))
  ob : OwnS W base 5 bv body
  oi : W.ownsRow base 5 1 iv idx.length (idx.map (Value.int .u8))
  ro : Rng out
  ri : Rng idx
  ol : ∀ W', Below base W W' → IsB W' lv last
  ab : Apart ov bv
  ai : Apart ov iv
  bi : Apart bv iv
section
variable {base wb : Nat} {W W' : World} {ov bv iv lv v : Value} {out body idx out' last : List Int} {many nb : Nat}
theorem Bu.lt (h : Bu base W wb ov bv iv lv out body idx many nb last) : wb < W.heap.size := (Array.getElem?_eq_some_iff.1 h.box).1
theorem Bu.c0 (h : Bu base W wb ov bv iv lv out body idx many nb last) : W.cell? ⟨wb, 0, none⟩ = some ov := by rw [cell_of_row _ _ _ _ _ _ h.box]; rfl
theorem Bu.c1 (h : Bu base W wb ov bv iv lv out body idx many nb last) : W.cell? ⟨wb, 1, none⟩ = some bv := by rw [cell_of_row _ _ _ _ _ _ h.box]; rfl
theorem Bu.c2 (h : Bu base W wb ov bv iv lv out body idx many nb last) : W.cell? ⟨wb, 2, none⟩ = some iv := by rw [cell_of_row _ _ _ _ _ _ h.box]; rfl
theorem Bu.c3 (h : Bu base W wb ov bv iv lv out body idx many nb last) : W.cell? ⟨wb, 3, none⟩ = some (.int .i64 many) := by rw [cell_of_row _ _ _ _ _ _ h.box]; rfl
theorem Bu.c4 (h : Bu base W wb ov bv iv lv out body idx many nb last) : W.cell? ⟨wb, 4, none⟩ = some (.int .i64 nb) := by rw [cell_of_row _ _ _ _ _ _ h.box]; rfl
theorem Bu.c5 (h : Bu base W wb ov bv iv lv out body idx many nb last) : W.cell? ⟨wb, 5, none⟩ = some lv := by rw [cell_of_row _ _ _ _ _ _ h.box]; rfl
theorem Bu.fz (h : Bu base W wb ov bv iv lv out body idx many nb last) (i : Nat) : W.frozen? ⟨wb, i, none⟩ = false := frozen_of_row _ _ _ _ _ h.box
theorem Bu.ne {b : Nat} {cur : Array Value} {fr : Nat × Nat} (h : Bu base W wb ov bv iv lv out body idx many nb last) (hb : W.heap[b]? = some (.cells cur 5 fr)) : b ≠ wb := by
  rintro rfl
  exact absurd (types_apart hb h.box) (by decide)
theorem Bu.neO (h : Bu base W wb ov bv iv lv out body idx many nb last) : ∀ b, ov.ownBlock = some b → b ≠ wb := fun b hb => by
  obtain ⟨-, -, cur, k⟩ := own_typed h.oo b hb
  exact h.ne k
theorem Bu.neI (h : Bu base W wb ov bv iv lv out body idx many nb last) : ∀ b, iv.ownBlock = some b → b ≠ wb := fun b hb => by
  obtain ⟨-, -, cur, k⟩ := own_typed h.oi b hb
  exact h.ne k
theorem Bu.neB (h : Bu base W wb ov bv iv lv out body idx many nb last) : ∀ b, bv.ownBlock = some b → b ≠ wb := fun b hb => by
  obtain ⟨cur, k⟩ := h.ob.typed b hb
  exact h.ne k
theorem apart_no {v u : Value} (h : Apart v u) : ∀ b, v.ownBlock = some b → ¬ u.ownBlock = some b := fun b h1 h2 => by
  rcases h with h3 | h3
  · rw [h3] at h1; cases h1
  · exact h3 (h1.trans h2.symm)
/-- a call that turns no block that was there -/
theorem Bu.below (h : Bu base W wb ov bv iv lv out body idx many nb last) (hb : Below W.heap.size W W') : Bu base W' wb ov bv iv lv out body idx many nb last :=
  ⟨(hb.block _ h.lt).trans h.box, h.bw, own_below h.oo hb, h.ob.below hb, own_below h.oi hb, h.ro, h.ri, fun W2 k => h.ol W2 ((hb.mono (Nat.le_trans h.bw (Nat.le_of_lt h.lt))).trans k), h.ab, h.ai, h.bi⟩
/-- a new value in cell 0: a row that has grown from the one in it -/
theorem Bu.set0 (h : Bu base W wb ov bv iv lv out body idx many nb last) (o : W'.ownsRow base 5 1 v out'.length (out'.map (Value.int .u8))) (r : Rng out') (c : Chg (fun b => ov.ownBlock = some b) W W') (k : v.ownBlock = ov.ownBlock ∨ ∃ b, v.ownBlock = some b ∧ W.heap.size ≤ b) :
    Bu base (W'.setCell ⟨wb, 0, none⟩ v) wb v bv iv lv out' body idx many nb last := by
  have hx : W'.heap[wb]? = some (.cells #[ov, bv, iv, .int .i64 many, .int .i64 nb, lv] 66 (0, 0)) := (c.block wb h.lt (fun e => h.neO wb e rfl)).trans h.box
  have hv : v.ownBlock ≠ some wb := fun e => by
    rcases k with k | ⟨b, k, hb⟩
    · exact h.neO wb (k.symm.trans e) rfl
    · rw [k] at e
      have := h.lt
      cases e
      omega
  refine ⟨?_, h.bw, own_set_other o hv _, ?_, own_set_other (c.own h.oi (fun b h1 h2 => apart_no h.ai b h2 h1)) (fun e => h.neI wb e rfl) _, r, h.ri, fun W2 k2 => h.ol W2 ?_, apart_new h.ab k (fun b hb => (h.ob.lt b hb).2), apart_new h.ai k (fun b hb => (h.oi.lt b hb).2), h.bi⟩
  · exact heap_setCell_same _ _ _ _ _ _ hx
  · exact ownS_set (c.ownS h.ob (fun b h1 h2 => apart_no h.ab b h2 h1)) (p := ⟨wb, 0, none⟩) (fun b e => h.neB b e) _
  · exact ((c.below (B := base) (Nat.le_trans h.bw (Nat.le_of_lt h.lt)) (fun b hb e => by have := (h.oo.lt b e).1; omega)).setCell (show base ≤ wb from h.bw) _).trans k2
end
/-- what a call on the builder does: the new values; what turns is the box and the two rows that grow -/
def BuP (base wb : Nat) (ov iv : Value) (out body idx : List Int) (many nb : Nat) (last : List Int) (w : World) (e : Ending) (w' : World) : Prop :=
  e = .returned (.tuple #[]) ∧ (∃ ov' bv' iv' lv', Bu base w' wb ov' bv' iv' lv' out body idx many nb last ∧ (∀ b, b < w.heap.size → (ov'.ownBlock = some b → ov.ownBlock = some b) ∧ (iv'.ownBlock = some b → iv.ownBlock = some b))) ∧ Chg (fun b => b = wb ∨ ov.ownBlock = some b ∨ iv.ownBlock = some b) w w'
set_option maxRecDepth 100000 in
set_option maxHeartbeats 4000000 in
theorem frame_any (base wb : Nat) (ov bv iv lv fv : Value) (out body idx last x : List Int) (many nb : Nat) (k : Int) (w : World) (h : Bu base w wb ov bv iv lv out body idx many nb last) (hk : 0 ≤ k ∧ k ≤ 255) (hx : IsB w fv x) (hl : out.length ≤ 70368744177664) (hbl : x.length ≤ 2097152) :
    Calls Try.prog 64 #[.pointer (some ⟨wb, 0, none⟩), .int .u8 k, fv] w (BuP base wb ov iv (out ++ frameF k x) body idx many nb last w) := by
  obtain ⟨i0, hi0, hz0, hz1, hz2⟩ := info_parts infoU8
  have HI := Lib.hid hi0; have HZ0 := Lib.hid hz0; have HZ1 := Lib.hid hz1; have HZ2 := Lib.hid hz2
  obtain ⟨oo, oc, rfl, -, -, -, -⟩ := own_form h.oo
  obtain ⟨fo, fc, rfl, -, -, -⟩ := hx.form
  have HF := Lib.hid (frame_ok k hk _ x w hx hbl)
  have HR := Lib.hid (frame_rng hk hx.rng)
  have HFL := Lib.hid (frame_le (k := k) hbl)
  have H := Lib.hid h
  clear hi0 hz0 hz1 hz2 h hx
  go_enter Try.func64, Try.ntmps64
  go_wp2_with fail
  refine HF.out.mono ?_
  unfold FramePost
  rintro e w1 ⟨v1, rfl, ho1, hb1⟩
  obtain ⟨fo, fc, rfl, -, -, -, -⟩ := own_form ho1
  have N1 := Lib.hid (IsB.of_own ho1 HR.out)
  have B1 := Lib.hid hb1
  have H1 := Lib.hid (H.out.below hb1)
  have c0 := H1.out.c0
  clear ho1 hb1 HF
  go_wp2_with (at_builtin; refine wpList_append_bytes' (w := w1) (base := base) (.tmp 18) (.tmp 19) _ rfl rfl i0 _ Try.underlying25 HI.out HZ0.out HZ1.out HZ2.out rfl _ out (frameF k x) rfl rfl H1.out.oo N1.out (by have := HFL.out; omega) (by have := H1.out.lt; have := H1.out.bw; omega) ?_; intro v2 w2 ho2 hg2 hk2; have O2 : Hid (w2.ownsRow base 5 1 v2 (out ++ frameF k x).length ((out ++ frameF k x).map (Value.int .u8))) := Lib.hid (by rw [List.length_append]; exact ho2); obtain ⟨o2, c2, rfl, -, -, -, -⟩ := own_form O2.out; have G2 : Hid (Chg (fun b => (Value.slice oo out.length oc).ownBlock = some b) w1 w2) := Lib.hid (Chg.of_grown hg2 (fun b _ e => e)); have K2 : Hid ((Value.slice o2 (out ++ frameF k x).length c2).ownBlock = (Value.slice oo out.length oc).ownBlock ∨ ∃ b, (Value.slice o2 (out ++ frameF k x).length c2).ownBlock = some b ∧ w1.heap.size ≤ b) := Lib.hid (by rcases hk2 with h | h; exact .inl h; exact .inr ⟨_, h, Nat.le_refl _⟩); have H2 := Lib.hid (H1.out.set0 O2.out (H1.out.ro.append HR.out) G2.out K2.out); have d0 : w2.cell? ⟨wb, 0, none⟩ = some (Value.slice oo out.length oc) := (G2.out.cell H1.out.lt (fun e => H1.out.neO wb e rfl)).trans c0; have z0 : w2.frozen? ⟨wb, 0, none⟩ = false := (G2.out.frozen H1.out.lt (fun e => H1.out.neO wb e rfl)).trans (H1.out.fz 0); clear ho2 hg2 hk2)
  have GA : Hid (Chg (fun b => b = wb ∨ (Value.slice oo out.length oc).ownBlock = some b ∨ iv.ownBlock = some b) w (w2.setCell ⟨wb, 0, none⟩ (Value.slice o2 (out ++ frameF k x).length c2))) := Lib.hid (((Chg.of_ext B1.out).trans (G2.out.mono (fun b _ e => .inr (.inl e)))).set (p := ⟨wb, 0, none⟩) (fun _ => .inl rfl) _)
  have KA : Hid (∀ b, b < w.heap.size → ((Value.slice o2 (out ++ frameF k x).length c2).ownBlock = some b → (Value.slice oo out.length oc).ownBlock = some b) ∧ (iv.ownBlock = some b → iv.ownBlock = some b)) := Lib.hid (fun b hb => ⟨fun e => by
    rcases K2.out with k | ⟨c, k, hc⟩
    · exact k.symm.trans e
    · rw [k] at e
      cases e
      have := B1.out.size
      omega, id⟩)
  have FIN : Hid (∀ n, n = (out ++ frameF k x).length → BuP base wb (Value.slice oo out.length oc) iv (out ++ frameF k x) body idx many nb last w (.returned (.tuple #[])) (w2.setCell ⟨wb, 0, none⟩ (.slice o2 n c2))) := Lib.hid (by
    rintro n rfl
    exact ⟨rfl, ⟨_, _, _, _, H2.out, KA.out⟩, GA.out⟩)
  go_end0
  exact FIN.out _ (by rw [List.length_append])
end Ss
end Go.Proofs.Ytmojbamloanleaa
namespace Go.Proofs.Ytmojbamloanleaa
open Go.RowKit
namespace Ss
open Mt Codec
section
variable {base wb : Nat} {W W' : World} {ov bv iv lv v : Value} {out body idx idx' body' last last' : List Int} {many nb : Nat}
theorem Bu.bel (h : Bu base W wb ov bv iv lv out body idx many nb last) (i : Nat) (u : Value) : Below base W (W.setCell ⟨wb, i, none⟩ u) := (Below.refl base W).setCell (show base ≤ wb from h.bw) _
/-- a new value in cell 1 -/
theorem Bu.set1 (h : Bu base W wb ov bv iv lv out body idx many nb last) (o : OwnS W base 5 v body') (a1 : Apart ov v) (a2 : Apart v iv) :
    Bu base (W.setCell ⟨wb, 1, none⟩ v) wb ov v iv lv out body' idx many nb last :=
  ⟨heap_setCell_same _ _ _ _ _ _ h.box, h.bw, own_set_other h.oo (fun e => h.neO wb e rfl) _, ownS_set o (p := ⟨wb, 1, none⟩) (fun b e => by
    obtain ⟨cur, k⟩ := o.typed b e
    exact h.ne k) _, own_set_other h.oi (fun e => h.neI wb e rfl) _, h.ro, h.ri, fun W2 k => h.ol W2 ((h.bel 1 v).trans k), a1, h.ai, a2⟩
/-- a new value in cell 2: a row that has grown from the one in it -/
theorem Bu.set2 (h : Bu base W wb ov bv iv lv out body idx many nb last) (o : W'.ownsRow base 5 1 v idx'.length (idx'.map (Value.int .u8))) (r : Rng idx') (c : Chg (fun b => iv.ownBlock = some b) W W') (k : v.ownBlock = iv.ownBlock ∨ ∃ b, v.ownBlock = some b ∧ W.heap.size ≤ b) :
    Bu base (W'.setCell ⟨wb, 2, none⟩ v) wb ov bv v lv out body idx' many nb last := by
  have hx : W'.heap[wb]? = some (.cells #[ov, bv, iv, .int .i64 many, .int .i64 nb, lv] 66 (0, 0)) := (c.block wb h.lt (fun e => h.neI wb e rfl)).trans h.box
  have hv : v.ownBlock ≠ some wb := fun e => by
    rcases k with k | ⟨b, k, hb⟩
    · exact h.neI wb (k.symm.trans e) rfl
    · rw [k] at e
      have := h.lt
      cases e
      omega
  refine ⟨?_, h.bw, own_set_other (c.own h.oo (fun b h1 h2 => apart_no h.ai b h1 h2)) (fun e => h.neO wb e rfl) _, ?_, own_set_other o hv _, h.ro, r, fun W2 k2 => h.ol W2 ?_, h.ab, (apart_new h.ai.symm k (fun b hb => (h.oo.lt b hb).2)).symm, (apart_new h.bi.symm k (fun b hb => (h.ob.lt b hb).2)).symm⟩
  · exact heap_setCell_same _ _ _ _ _ _ hx
  · exact ownS_set (c.ownS h.ob (fun b h1 h2 => apart_no h.bi b h1 h2)) (p := ⟨wb, 2, none⟩) (fun b e => h.neB b e) _
  · exact ((c.below (B := base) (Nat.le_trans h.bw (Nat.le_of_lt h.lt)) (fun b hb e => by have := (h.oi.lt b e).1; omega)).setCell (show base ≤ wb from h.bw) _).trans k2
theorem Bu.set3 (h : Bu base W wb ov bv iv lv out body idx many nb last) (n : Nat) : Bu base (W.setCell ⟨wb, 3, none⟩ (.int .i64 n)) wb ov bv iv lv out body idx n nb last :=
  ⟨heap_setCell_same _ _ _ _ _ _ h.box, h.bw, own_set_other h.oo (fun e => h.neO wb e rfl) _, ownS_set h.ob (p := ⟨wb, 3, none⟩) (fun b e => h.neB b e) _, own_set_other h.oi (fun e => h.neI wb e rfl) _, h.ro, h.ri, fun W2 k => h.ol W2 ((h.bel 3 _).trans k), h.ab, h.ai, h.bi⟩
theorem Bu.set4 (h : Bu base W wb ov bv iv lv out body idx many nb last) (n : Nat) : Bu base (W.setCell ⟨wb, 4, none⟩ (.int .i64 n)) wb ov bv iv lv out body idx many n last :=
  ⟨heap_setCell_same _ _ _ _ _ _ h.box, h.bw, own_set_other h.oo (fun e => h.neO wb e rfl) _, ownS_set h.ob (p := ⟨wb, 4, none⟩) (fun b e => h.neB b e) _, own_set_other h.oi (fun e => h.neI wb e rfl) _, h.ro, h.ri, fun W2 k => h.ol W2 ((h.bel 4 _).trans k), h.ab, h.ai, h.bi⟩
theorem Bu.set5 (h : Bu base W wb ov bv iv lv out body idx many nb last) (u : Value) (hu : ∀ W', Below base W W' → IsB W' u last') : Bu base (W.setCell ⟨wb, 5, none⟩ u) wb ov bv iv u out body idx many nb last' :=
  ⟨heap_setCell_same _ _ _ _ _ _ h.box, h.bw, own_set_other h.oo (fun e => h.neO wb e rfl) _, ownS_set h.ob (p := ⟨wb, 5, none⟩) (fun b e => h.neB b e) _, own_set_other h.oi (fun e => h.neI wb e rfl) _, h.ro, h.ri, fun W2 k => hu W2 ((h.bel 5 _).trans k), h.ab, h.ai, h.bi⟩
theorem Bu.isL (h : Bu base W wb ov bv iv lv out body idx many nb last) : IsB W lv last := h.ol W (Below.refl _ _)
end
/-- the index with the first of three numbers -/
def ixJ (idx : List Int) (a b c : Nat) : Nat → List Int
  | 0 => idx
  | 1 => idx ++ numN a
  | 2 => idx ++ numN a ++ numN b
  | _ => idx ++ numN a ++ numN b ++ numN c
def nJ (a b c : Nat) : Nat → Nat
  | 0 => a
  | 1 => b
  | _ => c
theorem ixJ_step (idx : List Int) (a b c : Nat) : ∀ j, j < 3 → ixJ idx a b c (j + 1) = ixJ idx a b c j ++ numN (nJ a b c j)
  | 0, _ => rfl
  | 1, _ => rfl
  | 2, _ => rfl
  | j + 3, h => by omega
theorem nJ_cell (a b c : Nat) : ∀ j, j < 3 → (#[Value.int .i64 a, Value.int .i64 b, Value.int .i64 c] : Array Value)[j]? = some (.int .i64 (nJ a b c j))
  | 0, _ => rfl
  | 1, _ => rfl
  | 2, _ => rfl
  | j + 3, h => by omega
theorem ixJ_len (idx : List Int) (a b c : Nat) (ha : a < 18446744073709551616) (hb : b < 18446744073709551616) (hc : c < 18446744073709551616) : ∀ j, (ixJ idx a b c j).length ≤ idx.length + 30 := by
  have h1 := numN_len10 ha
  have h2 := numN_len10 hb
  have h3 := numN_len10 hc
  intro j
  rcases j with _ | _ | _ | j <;> simp only [ixJ, List.length_append] <;> omega
theorem nJ_lt {a b c B : Nat} (ha : a < B) (hb : b < B) (hc : c < B) : ∀ j, nJ a b c j < B
  | 0 => ha
  | 1 => hb
  | _ + 2 => hc
/-- what the loop of close keeps -/
structure ClI (base : Nat) (w W : World) (wb : Nat) (ov bv iv0 iv lv : Value) (out body idx : List Int) (many nb : Nat) (last : List Int) (g a b c : Nat) : Prop where
  bu : Bu base W wb ov bv iv lv out body idx many nb last
  row : W.heap[g]? = some (.cells #[.int .i64 a, .int .i64 b, .int .i64 c] 3 (0, 0))
  key : ∀ b, b < w.heap.size → iv.ownBlock = some b → iv0.ownBlock = some b
  chg : Chg (fun b => b = wb ∨ iv0.ownBlock = some b) w W
  hg : w.heap.size ≤ g
theorem ClI.below {base wb many nb g a b c : Nat} {w W W' : World} {ov bv iv0 iv lv : Value} {out body idx last : List Int} (h : ClI base w W wb ov bv iv0 iv lv out body idx many nb last g a b c) (hb : Below W.heap.size W W') : ClI base w W' wb ov bv iv0 iv lv out body idx many nb last g a b c :=
  ⟨h.bu.below hb, (hb.block _ (Array.getElem?_eq_some_iff.1 h.row).1).trans h.row, h.key, h.chg.trans (.of_ext hb), h.hg⟩
theorem ClI.grow {base wb many nb g a b c : Nat} {w W W' : World} {ov bv iv0 iv lv v : Value} {out body idx idx' last : List Int} (h : ClI base w W wb ov bv iv0 iv lv out body idx many nb last g a b c) (o : W'.ownsRow base 5 1 v idx'.length (idx'.map (Value.int .u8))) (r : Rng idx') (k : Chg (fun b => iv.ownBlock = some b) W W') (kv : v.ownBlock = iv.ownBlock ∨ ∃ b, v.ownBlock = some b ∧ W.heap.size ≤ b) :
    ClI base w (W'.setCell ⟨wb, 2, none⟩ v) wb ov bv iv0 v lv out body idx' many nb last g a b c := by
  have hgl := (Array.getElem?_eq_some_iff.1 h.row).1
  have hgw : g ≠ wb := by
    rintro rfl
    exact absurd (types_apart h.row h.bu.box) (by decide)
  refine ⟨h.bu.set2 o r k kv, ?_, fun b hb e => ?_, ?_, h.hg⟩
  · rw [Below.heap_setCell _ _ _ _ (show g ≠ wb from hgw)]
    refine (k.block g hgl (fun e => ?_)).trans h.row
    obtain ⟨-, -, cur, hc⟩ := own_typed h.bu.oi g e
    exact absurd (types_apart h.row hc) (by decide)
  · rcases kv with kv | ⟨d, kv, hd⟩
    · exact h.key b hb (kv.symm.trans e)
    · rw [kv] at e
      cases e
      have := h.chg.size
      omega
  · exact (h.chg.fresh k (fun b hb e => .inr (h.key b hb e))).set (p := ⟨wb, 2, none⟩) (fun _ => .inl rfl) _
end Ss
end Go.Proofs.Ytmojbamloanleaa
