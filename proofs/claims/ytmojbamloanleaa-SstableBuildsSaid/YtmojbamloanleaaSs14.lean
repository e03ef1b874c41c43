/- sstable: a block is closed (walk). -/
import Derived.Test.YtmojbamloanleaaSs13
set_option linter.unusedVariables false
set_option linter.unusedSimpArgs false
namespace Go.Proofs.Ytmojbamloanleaa
open Go.RowKit
namespace Ss
open Mt Codec
section
variable {base wb : Nat} {W W' : World} {ov bv iv lv v : Value} {out body idx idx' body' last last' : List Int} {many nb : Nat}
theorem Bu.bel (h : Bu base W wb ov bv iv lv out body idx many nb last) (i : Nat) (u : Value) : Below base W (W.setCell ⟨wb, i, none⟩ u) := (Below.refl base W).setCell (show base ≤ wb from h.bw) _
/-- a new value in cell 1 -/
theorem Bu.set1 (h : Bu base W wb ov bv iv lv out body idx many nb last) (o : OwnS W base 5 v body') (a1 : Apart ov v) (a2 : Apart v iv) :
    Bu base (W.setCell ⟨wb, 1, none⟩ v) wb ov v iv lv out body' idx many nb last :=
  ⟨heap_setCell_same _ _ _ _ _ _ h.box, h.bw, own_set_other h.oo (fun e => h.neO wb e rfl) _, ownS_set o (p := ⟨wb, 1, none⟩) (fun b e => by
    obtain ⟨cur, k⟩ := o.typed b e
    exact h.ne k) _, own_set_other h.oi (fun e => h.neI wb e rfl) _, h.ro, h.ri, fun W2 k => h.ol W2 ((h.bel 1 v).trans k), a1, h.ai, a2⟩
/-- a new value in cell 2: a row that has grown from the one in it -/
theorem Bu.set2 (h : Bu base W wb ov bv iv lv out body idx many nb last) (o : W'.ownsRow base 5 1 v idx'.length (idx'.map (Value.int .u8))) (r : Rng idx') (c : Chg (fun b => iv.ownBlock = some b) W W') (k : v.ownBlock = iv.ownBlock ∨ ∃ b, v.ownBlock = some b ∧ W.heap.size ≤ b) :
    Bu base (W'.setCell ⟨wb, 2, none⟩ v) wb ov bv v lv out body idx' many nb last := by
  have hx : W'.heap[wb]? = some (.cells #[ov, bv, iv, .int .i64 many, .int .i64 nb, lv] 66 (0, 0)) := (c.block wb h.lt (fun e => h.neI wb e rfl)).trans h.box
  have hv : v.ownBlock ≠ some wb := fun e => by
    rcases k with k | ⟨b, k, hb⟩
    · exact h.neI wb (k.symm.trans e) rfl
    · rw [k] at e
      have := h.lt
      cases e
      omega
  refine ⟨?_, h.bw, own_set_other (c.own h.oo (fun b h1 h2 => apart_no h.ai b h1 h2)) (fun e => h.neO wb e rfl) _, ?_, own_set_other o hv _, h.ro, r, fun W2 k2 => h.ol W2 ?_, h.ab, (apart_new h.ai.symm k (fun b hb => (h.oo.lt b hb).2)).symm, (apart_new h.bi.symm k (fun b hb => (h.ob.lt b hb).2)).symm⟩
  · exact heap_setCell_same _ _ _ _ _ _ hx
  · exact ownS_set (c.ownS h.ob (fun b h1 h2 => apart_no h.bi b h1 h2)) (p := ⟨wb, 2, none⟩) (fun b e => h.neB b e) _
  · exact ((c.below (B := base) (Nat.le_trans h.bw (Nat.le_of_lt h.lt)) (fun b hb e => by have := (h.oi.lt b e).1; omega)).setCell (show base ≤ wb from h.bw) _).trans k2
theorem Bu.set3 (h : Bu base W wb ov bv iv lv out body idx many nb last) (n : Nat) : Bu base (W.setCell ⟨wb, 3, none⟩ (.int .i64 n)) wb ov bv iv lv out body idx n nb last :=
  ⟨heap_setCell_same _ _ _ _ _ _ h.box, h.bw, own_set_other h.oo (fun e => h.neO wb e rfl) _, ownS_set h.ob (p := ⟨wb, 3, none⟩) (fun b e => h.neB b e) _, own_set_other h.oi (fun e => h.neI wb e rfl) _, h.ro, h.ri, fun W2 k => h.ol W2 ((h.bel 3 _).trans k), h.ab, h.ai, h.bi⟩
theorem Bu.set4 (h : Bu base W wb ov bv iv lv out body idx many nb last) (n : Nat) : Bu base (W.setCell ⟨wb, 4, none⟩ (.int .i64 n)) wb ov bv iv lv out body idx many n last :=
  ⟨heap_setCell_same _ _ _ _ _ _ h.box, h.bw, own_set_other h.oo (fun e => h.neO wb e rfl) _, ownS_set h.ob (p := ⟨wb, 4, none⟩) (fun b e => h.neB b e) _, own_set_other h.oi (fun e => h.neI wb e rfl) _, h.ro, h.ri, fun W2 k => h.ol W2 ((h.bel 4 _).trans k), h.ab, h.ai, h.bi⟩
theorem Bu.set5 (h : Bu base W wb ov bv iv lv out body idx many nb last) (u : Value) (hu : ∀ W', Below base W W' → IsB W' u last') : Bu base (W.setCell ⟨wb, 5, none⟩ u) wb ov bv iv u out body idx many nb last' :=
  ⟨heap_setCell_same _ _ _ _ _ _ h.box, h.bw, own_set_other h.oo (fun e => h.neO wb e rfl) _, ownS_set h.ob (p := ⟨wb, 5, none⟩) (fun b e => h.neB b e) _, own_set_other h.oi (fun e => h.neI wb e rfl) _, h.ro, h.ri, fun W2 k => hu W2 ((h.bel 5 _).trans k), h.ab, h.ai, h.bi⟩
theorem Bu.isL (h : Bu base W wb ov bv iv lv out body idx many nb last) : IsB W lv last := h.ol W (Below.refl _ _)
end
/-- the index with the first of three numbers -/
def ixJ (idx : List Int) (a b c : Nat) : Nat → List Int
  | 0 => idx
  | 1 => idx ++ numN a
  | 2 => idx ++ numN a ++ numN b
  | _ => idx ++ numN a ++ numN b ++ numN c
def nJ (a b c : Nat) : Nat → Nat
  | 0 => a
  | 1 => b
  | _ => c
theorem ixJ_step (idx : List Int) (a b c : Nat) : ∀ j, j < 3 → ixJ idx a b c (j + 1) = ixJ idx a b c j ++ numN (nJ a b c j)
  | 0, _ => rfl
  | 1, _ => rfl
  | 2, _ => rfl
  | j + 3, h => by omega
theorem nJ_cell (a b c : Nat) : ∀ j, j < 3 → (#[Value.int .i64 a, Value.int .i64 b, Value.int .i64 c] : Array Value)[j]? = some (.int .i64 (nJ a b c j))
  | 0, _ => rfl
  | 1, _ => rfl
  | 2, _ => rfl
  | j + 3, h => by omega
theorem ixJ_len (idx : List Int) (a b c : Nat) (ha : a < 18446744073709551616) (hb : b < 18446744073709551616) (hc : c < 18446744073709551616) : ∀ j, (ixJ idx a b c j).length ≤ idx.length + 30 := by
  have h1 := numN_len10 ha
  have h2 := numN_len10 hb
  have h3 := numN_len10 hc
  intro j
  rcases j with _ | _ | _ | j <;> simp only [ixJ, List.length_append] <;> omega
theorem nJ_lt {a b c B : Nat} (ha : a < B) (hb : b < B) (hc : c < B) : ∀ j, nJ a b c j < B
  | 0 => ha
  | 1 => hb
  | _ + 2 => hc
/-- what the loop of close keeps -/
structure ClI (base : Nat) (w W : World) (wb : Nat) (ov bv iv0 iv lv : Value) (out body idx : List Int) (many nb : Nat) (last : List Int) (g a b c : Nat) : Prop where
  bu : Bu base W wb ov bv iv lv out body idx many nb last
  row : W.heap[g]? = some (.cells #[.int .i64 a, .int .i64 b, .int .i64 c] 3 (0, 0))
  key : ∀ b, b < w.heap.size → iv.ownBlock = some b → iv0.ownBlock = some b
  chg : Chg (fun b => b = wb ∨ iv0.ownBlock = some b) w W
  hg : w.heap.size ≤ g
theorem ClI.below {base wb many nb g a b c : Nat} {w W W' : World} {ov bv iv0 iv lv : Value} {out body idx last : List Int} (h : ClI base w W wb ov bv iv0 iv lv out body idx many nb last g a b c) (hb : Below W.heap.size W W') : ClI base w W' wb ov bv iv0 iv lv out body idx many nb last g a b c :=
  ⟨h.bu.below hb, (hb.block _ (Array.getElem?_eq_some_iff.1 h.row).1).trans h.row, h.key, h.chg.trans (.of_ext hb), h.hg⟩
theorem ClI.grow {base wb many nb g a b c : Nat} {w W W' : World} {ov bv iv0 iv lv v : Value} {out body idx idx' last : List Int} (h : ClI base w W wb ov bv iv0 iv lv out body idx many nb last g a b c) (o : W'.ownsRow base 5 1 v idx'.length (idx'.map (Value.int .u8))) (r : Rng idx') (k : Chg (fun b => iv.ownBlock = some b) W W') (kv : v.ownBlock = iv.ownBlock ∨ ∃ b, v.ownBlock = some b ∧ W.heap.size ≤ b) :
    ClI base w (W'.setCell ⟨wb, 2, none⟩ v) wb ov bv iv0 v lv out body idx' many nb last g a b c := by
  have hgl := (Array.getElem?_eq_some_iff.1 h.row).1
  have hgw : g ≠ wb := by
    rintro rfl
    exact absurd (types_apart h.row h.bu.box) (by decide)
  refine ⟨h.bu.set2 o r k kv, ?_, fun b hb e => ?_, ?_, h.hg⟩
  · rw [Below.heap_setCell _ _ _ _ (show g ≠ wb from hgw)]
    refine (k.block g hgl (fun e => ?_)).trans h.row
    obtain ⟨-, -, cur, hc⟩ := own_typed h.bu.oi g e
    exact absurd (types_apart h.row hc) (by decide)
  · rcases kv with kv | ⟨d, kv, hd⟩
    · exact h.key b hb (kv.symm.trans e)
    · rw [kv] at e
      cases e
      have := h.chg.size
      omega
  · exact (h.chg.fresh k (fun b hb e => .inr (h.key b hb e))).set (p := ⟨wb, 2, none⟩) (fun _ => .inl rfl) _
end Ss
end Go.Proofs.Ytmojbamloanleaa
