/- sstable: the builder over blocks, beside a row of keys. -/
import Derived.Test.YtmojbamloanleaaSs17
set_option linter.unusedVariables false
set_option linter.unusedSimpArgs false
namespace Go.Proofs.Ytmojbamloanleaa
open Go.RowKit
namespace Ss
open Mt Codec
theorem part_bounds (bb : Int) (hb : bb ≤ 65536) (l : List En) (hm : ∀ x ∈ l, mayB x = true) (hl : l.length ≤ 65536) :
    (bodyF (partF bb l).2).1.length ≤ 66000 ∧ (bodyF (partF bb l).2).2.length ≤ 256 ∧ (partF bb l).1.length ≤ 65536 ∧ (partF bb l).2.length ≤ 65536 ∧ (doneF (partF bb l).1).1.length ≤ 4400000000 ∧ (doneF (partF bb l).1).2.length ≤ 30000000 := by
  have hfl : ((partF bb l).1 ++ [(partF bb l).2]).flatten = l := part_flat bb l
  have hall := part_all bb hb l hm
  have hsz := part_sizes bb l
  have hA : ∀ b ∈ (partF bb l).1 ++ [(partF bb l).2], (bodyF b).1.length ≤ 66000 ∧ (bodyF b).2.length ≤ 256 ∧ b.length ≤ 65536 := fun b hb => ⟨hall b hb, last_le b (fun x hx => hm x (by rw [← hfl]; exact List.mem_flatten.2 ⟨b, hb, hx⟩)), by
    have h9 := (List.sublist_flatten_of_mem hb).length_le
    rw [hfl] at h9
    omega⟩
  have h1 := done_le (partF bb l).1 ([], []) (fun b hb => hA b (List.mem_append_left _ hb)) (by first | (simp; done) | (simp; omega)) (by omega)
  have h2 := hA (partF bb l).2 (List.mem_append_right _ (List.mem_singleton.2 rfl))
  simp only [List.length_nil] at h1
  unfold doneF
  refine ⟨h2.1, h2.2.1, by omega, h2.2.2, by omega, by omega⟩
theorem blks_bounds (bb : Int) (hb : bb ≤ 65536) (l : List En) (hm : ∀ x ∈ l, mayB x = true) (hl : l.length ≤ 65536) :
    (blksF l bb).length ≤ 65537 ∧ (doneF (blksF l bb)).1.length ≤ 4400000000 ∧ (doneF (blksF l bb)).2.length ≤ 30000000 ∧ 0 < (doneF (blksF l bb)).2.length := by
  obtain ⟨b1, b2, b3, b4, b5, b6⟩ := part_bounds bb hb l hm hl
  have hfl : ((partF bb l).1 ++ [(partF bb l).2]).flatten = l := part_flat bb l
  have hall := part_all bb hb l hm
  have hsz := part_sizes bb l
  have hA : ∀ b ∈ (partF bb l).1 ++ [(partF bb l).2], (bodyF b).1.length ≤ 66000 ∧ (bodyF b).2.length ≤ 256 ∧ b.length ≤ 65536 := fun b hb => ⟨hall b hb, last_le b (fun x hx => hm x (by rw [← hfl]; exact List.mem_flatten.2 ⟨b, hb, hx⟩)), by
    have h9 := (List.sublist_flatten_of_mem hb).length_le
    rw [hfl] at h9
    omega⟩
  have hlen : ((partF bb l).1 ++ [(partF bb l).2]).length ≤ 65537 := by simp only [List.length_append, List.length_singleton]; omega
  have h1 := done_le ((partF bb l).1 ++ [(partF bb l).2]) ([], []) hA (by first | (simp; done) | (simp; omega)) hlen
  simp only [List.length_nil] at h1
  unfold blksF
  refine ⟨hlen, by unfold doneF; omega, by unfold doneF; omega, ?_⟩
  rw [doneF_snoc]
  have := numN_pos (doneF (partF bb l).1).1.length
  simp only [blkF, List.length_append]
  omega
/-- add, told of blocks -/
theorem add2 (base wb : Nat) (ov bv iv lv kv vv : Value) (p : List (List En) × List En) (x : En) (bb : Int) (w : World) (h : BuD base w wb ov bv iv lv p) (hk : ∀ W', Below base w W' → IsB W' kv x.1) (hv : ∀ W', Below base w W' → IsB W' vv x.2.2.2) (hm : mayB x = true)
    (hout : (doneF p.1).1.length ≤ 17592186044416) (hbl : (bodyF p.2).1.length ≤ 66000) (hidx : (doneF p.1).2.length ≤ 17592186044416) (hmn : p.2.length ≤ 65536) (hnb : p.1.length ≤ 65536) (hll : (bodyF p.2).2.length ≤ 256) (hbb : I64 bb) :
    Calls Try.prog 34 #[.pointer (some ⟨wb, 0, none⟩), .agg #[kv, .int .u64 x.2.1, .bool x.2.2.1, vv], .int .i64 bb] w (BuDP base wb ov iv (stepP bb p x) w) := by
  refine (add_any base wb ov bv iv lv kv vv _ _ _ _ _ _ x bb w h hk hv hm hout hbl hidx hmn hnb hll hbb).mono ?_
  intro e w' h9
  obtain ⟨D, cur⟩ := p
  simp only at h9 ⊢
  have hsn := bodyF_snoc cur x
  unfold BuDP stepP
  simp only
  by_cases h0 : cur = []
  · subst h0
    rw [if_neg (by simp), if_neg (by simp)] at h9
    rw [if_neg (by simp)]
    simp only [List.nil_append]
    rw [body_one]
    exact h9
  · have hp : 0 < cur.length := List.length_pos_iff.2 h0
    by_cases h1 : (((bodyF cur).1 ++ layS (bodyF cur).2 x).length : Int) ≤ bb
    · rw [if_pos ⟨hp, h1⟩] at h9
      rw [if_neg (by rw [hsn]; rintro ⟨-, h2⟩; simp only at h2; omega)]
      simp only
      rw [hsn, List.length_append]
      exact h9
    · rw [if_neg (fun h2 => h1 h2.2), if_pos hp] at h9
      rw [if_pos ⟨h0, by rw [hsn]; simp only; omega⟩]
      simp only
      rw [doneF_snoc, body_one, List.length_append]
      exact h9
/-- the builder beside a row of keys -/
structure Bd (w W : World) (wb : Nat) (ov bv iv lv kv : Value) (vs : List Value) (p : List (List En) × List En) (ks : List (List Int)) : Prop where
  bu : BuD w.heap.size W wb ov bv iv lv p
  kr : W.ownsRow w.heap.size 25 1 kv vs.length vs
  ka : Alike2 w vs ks
  bel : Below w.heap.size w W
section
variable {w W W' : World} {wb : Nat} {ov bv iv lv kv v : Value} {vs : List Value} {p p' : List (List En) × List En} {ks : List (List Int)} {e : Ending} {x : Value} {a : List Int}
theorem Bd.below (h : Bd w W wb ov bv iv lv kv vs p ks) (hb : Below W.heap.size W W') : Bd w W' wb ov bv iv lv kv vs p ks :=
  ⟨h.bu.below hb, own_below h.kr hb, h.ka, bel_call h.bel hb⟩
theorem Bd.keysB (h : Bd w W wb ov bv iv lv kv vs p ks) (c : Chg (fun b => b = wb ∨ ov.ownBlock = some b ∨ iv.ownBlock = some b) W W') : W'.ownsRow w.heap.size 25 1 kv vs.length vs :=
  c.own h.kr (fun b h1 h2 => by
    obtain ⟨-, -, c1, k1⟩ := own_typed h.kr b h1
    rcases h2 with rfl | h2 | h2
    · exact absurd (types_apart k1 h.bu.box) (by decide)
    · obtain ⟨-, -, c2, k2⟩ := own_typed h.bu.oo b h2
      exact absurd (types_apart k1 k2) (by decide)
    · obtain ⟨-, -, c2, k2⟩ := own_typed h.bu.oi b h2
      exact absurd (types_apart k1 k2) (by decide))
theorem Bd.add (h : Bd w W wb ov bv iv lv kv vs p ks) (b : BuDP w.heap.size wb ov iv p' W e W') : e = .returned (.tuple #[]) ∧ ∃ ov' bv' iv' lv', Bd w W' wb ov' bv' iv' lv' kv vs p' ks := by
  obtain ⟨h1, ⟨ov', bv', iv', lv', h2, -⟩, h3⟩ := b
  exact ⟨h1, ov', bv', iv', lv', h2, h.keysB h3, h.ka, h.bel.trans (h.bu.chgB h3)⟩
/-- one key more -/
theorem Bd.key (h : Bd w W wb ov bv iv lv kv vs p ks) (o : W'.ownsRow w.heap.size 25 1 v (vs.length + 1) (vs ++ [x])) (c : Chg (fun b => kv.ownBlock = some b) W W') (hx : IsB w x a) : Bd w W' wb ov bv iv lv v (vs ++ [x]) p (ks ++ [a]) := by
  have hne : ∀ b, kv.ownBlock = some b → ∀ cur, ¬ W.heap[b]? = some (.cells cur 5 (0, 0)) := fun b hb cur hc => by
    obtain ⟨-, -, c1, k1⟩ := own_typed h.kr b hb
    exact absurd (types_apart k1 hc) (by decide)
  have hnw : ∀ b, kv.ownBlock = some b → b ≠ wb := fun b hb => by
    rintro rfl
    obtain ⟨-, -, c1, k1⟩ := own_typed h.kr b hb
    exact absurd (types_apart k1 h.bu.box) (by decide)
  have hB : Below w.heap.size W W' := c.below h.bel.size (fun b hb e => by have := (h.kr.lt b e).1; omega)
  refine ⟨⟨(c.block wb h.bu.lt (fun e => hnw wb e rfl)).trans h.bu.box, h.bu.bw, c.own h.bu.oo (fun b h1 h2 => ?_), c.ownS h.bu.ob (fun b h1 h2 => ?_), c.own h.bu.oi (fun b h1 h2 => ?_), h.bu.ro, h.bu.ri, fun W2 k => h.bu.ol W2 (hB.trans k), h.bu.ab, h.bu.ai, h.bu.bi⟩, by rw [List.length_append]; exact o, h.ka.snoc hx, h.bel.trans hB⟩
  · obtain ⟨-, -, c2, k2⟩ := own_typed h.bu.oo b h1
    exact hne b h2 c2 k2
  · obtain ⟨c2, k2⟩ := h.bu.ob.typed b h1
    exact hne b h2 c2 k2
  · obtain ⟨-, -, c2, k2⟩ := own_typed h.bu.oi b h1
    exact hne b h2 c2 k2
end
end Ss
end Go.Proofs.Ytmojbamloanleaa
