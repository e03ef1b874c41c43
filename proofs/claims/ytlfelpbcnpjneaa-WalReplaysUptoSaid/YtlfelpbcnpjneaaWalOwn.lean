/- wal: operations of the call's own. -/
import Derived.Test.YtlfelpbcnpjneaaWalOps
import Derived.Test.YtlfelpbcnpjneaaKit
namespace Go.Proofs.Ytlfelpbcnpjneaa
open Go.RowKit
theorem ownS_row_ne {w : World} {base base' n size : Nat} {e e' : TypeId} {v u : Value} {l : List Int} {xs : List Value} (h : OwnS w base e u l) (k : w.ownsRow base' e' size v n xs) (hne : e ≠ e') : u.ownBlock = none ∨ u.ownBlock ≠ v.ownBlock := by
  rcases h.2 with ⟨rfl, _⟩ | ⟨g, cap, cur, rfl, h2, h3, _⟩
  · exact .inl rfl
  · rcases k.2 with ⟨rfl, _⟩ | ⟨g', cap', cur', rfl, k2, k3, _⟩
    · exact .inr (fun hh => by cases hh)
    · refine .inr (fun hh => ?_)
      have hg : g = g' := by simpa [Value.ownBlock] using hh
      subst hg
      rw [h3] at k3
      simp only [Option.some.injEq, Obj.cells.injEq] at k3
      exact hne k3.2.1
namespace Wal
def OwnOps (w : World) (base : Nat) (v : Value) (l : List Opr) : Prop :=
  ∃ xs, w.ownsRow base 43 3 v l.length xs ∧ ∀ i x, l[i]? = some x → ∃ kv vv, xs[i * 3]? = some (.bool x.1) ∧ xs[i * 3 + 1]? = some kv ∧ xs[i * 3 + 2]? = some vv ∧ OwnS w base 5 kv x.2.1 ∧ OwnS w base 5 vv x.2.2
theorem OwnOps.nil (w : World) (base : Nat) : OwnOps w base (.slice none 0 0) [] := ⟨[], World.ownsRow_nil _ _ _ _, fun i x h => by simp at h⟩
theorem OwnOps.below {w w' : World} {base : Nat} {v : Value} {l : List Opr} (h : OwnOps w base v l) (hb : Below w.heap.size w w') : OwnOps w' base v l := by
  obtain ⟨xs, h1, h2⟩ := h
  refine ⟨xs, own_below h1 hb, fun i x hx => ?_⟩
  obtain ⟨kv, vv, k1, k2, k3, k4, k5⟩ := h2 i x hx
  exact ⟨kv, vv, k1, k2, k3, k4.below hb, k5.below hb⟩
theorem OwnOps.isOps {w : World} {base : Nat} {v : Value} {l : List Opr} (h : OwnOps w base v l) : IsOps w v l := by
  obtain ⟨xs, h1, h2⟩ := h
  obtain ⟨ao, cap, rfl, hnc, hcap, hnone, hsome⟩ := own_form h1
  refine ⟨ao, cap, rfl, hnc, by unfold maxLen; omega, fun hn => ⟨List.eq_nil_of_length_eq_zero (hnone hn).1, (hnone hn).2⟩, fun i x hx => ?_⟩
  obtain ⟨kv, vv, k1, k2, k3, k4, k5⟩ := h2 i x hx
  obtain ⟨g, rfl, hg, hgw, c0⟩ := own_cell h1 k1
  obtain ⟨g1, e1, -, -, c1⟩ := own_cell h1 k2
  obtain ⟨g2, e2, -, -, c2⟩ := own_cell h1 k3
  cases e1
  cases e2
  refine ⟨g, 0, [.bool x.1, kv, vv], rfl, hgw, rfl, fun j u hu => ?_, kv, vv, rfl, k4.isB, k5.isB⟩
  rw [Nat.zero_add]
  match j, hu with
  | 0, hu => cases hu; exact c0
  | 1, hu => cases hu; exact c1
  | 2, hu => cases hu; exact c2
/-- one more -/
theorem OwnOps.snoc {w w' : World} {base : Nat} {v v' : Value} {l : List Opr} {x : Opr} {kv vv : Value} {xs : List Value}
    (h1 : w.ownsRow base 43 3 v l.length xs) (h2 : ∀ i x, l[i]? = some x → ∃ kv vv, xs[i * 3]? = some (.bool x.1) ∧ xs[i * 3 + 1]? = some kv ∧ xs[i * 3 + 2]? = some vv ∧ OwnS w base 5 kv x.2.1 ∧ OwnS w base 5 vv x.2.2)
    (hk : OwnS w base 5 kv x.2.1) (hv : OwnS w base 5 vv x.2.2) (h' : w'.ownsRow base 43 3 v' (l.length + 1) (xs ++ [.bool x.1, kv, vv])) (hg : w.grownBy w' v.ownBlock) : OwnOps w' base v' (l ++ [x]) := by
  have hl : xs.length = l.length * 3 := h1.1
  have keep : ∀ u m, OwnS w base 5 u m → OwnS w' base 5 u m := fun u m h => h.kept hg (ownS_row_ne h h1 (by decide))
  refine ⟨_, by rw [List.length_append]; exact h', fun i y hy => ?_⟩
  rcases Nat.lt_or_ge i l.length with hi | hi
  · rw [List.getElem?_append_left hi] at hy
    obtain ⟨kv', vv', k1, k2, k3, k4, k5⟩ := h2 i y hy
    exact ⟨kv', vv', by rw [List.getElem?_append_left (by omega)]; exact k1, by rw [List.getElem?_append_left (by omega)]; exact k2, by rw [List.getElem?_append_left (by omega)]; exact k3, keep _ _ k4, keep _ _ k5⟩
  · rw [List.getElem?_append_right hi] at hy
    have hi0 : i = l.length := by
      rcases Nat.lt_or_ge (i - l.length) 1 with h | h
      · omega
      · rw [List.getElem?_eq_none (by simpa using h)] at hy; cases hy
    subst hi0
    simp only [Nat.sub_self, List.getElem?_cons_zero, Option.some.injEq] at hy
    subst hy
    exact ⟨kv, vv, by rw [List.getElem?_append_right (by omega), hl, Nat.sub_self]; rfl, by rw [List.getElem?_append_right (by omega), hl, show l.length * 3 + 1 - l.length * 3 = 1 from by omega]; rfl, by rw [List.getElem?_append_right (by omega), hl, show l.length * 3 + 2 - l.length * 3 = 2 from by omega]; rfl, keep _ _ hk, keep _ _ hv⟩
end Wal
end Go.Proofs.Ytlfelpbcnpjneaa
namespace Go.Proofs.Ytlfelpbcnpjneaa
open Go.RowKit
namespace Wal
theorem OwnOps.mono {w : World} {base b' : Nat} {v : Value} {l : List Opr} (h : OwnOps w base v l) (hb : b' ≤ base) : OwnOps w b' v l := by
  obtain ⟨xs, h1, h2⟩ := h
  refine ⟨xs, own_mono h1 hb, fun i x hx => ?_⟩
  obtain ⟨kv, vv, k1, k2, k3, k4, k5⟩ := h2 i x hx
  exact ⟨kv, vv, k1, k2, k3, k4.mono hb, k5.mono hb⟩
/-- a store elsewhere -/
theorem OwnOps.set {w : World} {base : Nat} {v : Value} {l : List Opr} (h : OwnOps w base v l) {p : Addr} (hp : p.block < base) (hps : p.block < w.heap.size) (u : Value) : OwnOps (w.setCell p u) base v l := by
  have hg : w.grownBy (w.setCell p u) (some p.block) := gb_set (gb_refl w (some p.block)) (.inl rfl) u
  obtain ⟨xs, h1, h2⟩ := h
  have nb : ∀ {x : Value}, (∀ k, x.ownBlock = some k → base ≤ k ∧ k < w.heap.size) → x.ownBlock = none ∨ x.ownBlock ≠ some p.block := fun {x} hx => .inr (fun e => by have := hx _ e; omega)
  refine ⟨xs, h1.kept hg (nb h1.lt), fun i x hx => ?_⟩
  obtain ⟨kv, vv, k1, k2, k3, k4, k5⟩ := h2 i x hx
  exact ⟨kv, vv, k1, k2, k3, k4.kept hg (nb k4.lt), k5.kept hg (nb k5.lt)⟩
/-- a block ahead of its own turns -/
theorem OwnOps.grown {w w' : World} {base g : Nat} {v : Value} {l : List Opr} (h : OwnOps w base v l) (hg : w.grownBy w' (some g)) (hgb : g < base) : OwnOps w' base v l := by
  obtain ⟨xs, h1, h2⟩ := h
  have nb : ∀ {x : Value}, (∀ k, x.ownBlock = some k → base ≤ k ∧ k < w.heap.size) → x.ownBlock = none ∨ x.ownBlock ≠ some g := fun {x} hx => .inr (fun e => by have := hx _ e; omega)
  refine ⟨xs, h1.kept hg (nb h1.lt), fun i x hx => ?_⟩
  obtain ⟨kv, vv, k1, k2, k3, k4, k5⟩ := h2 i x hx
  exact ⟨kv, vv, k1, k2, k3, k4.kept hg (nb k4.lt), k5.kept hg (nb k5.lt)⟩
theorem infoOp : (Try.prog.info? 43).map (fun i => (i.zero, i.size, i.bytes)) = some (some (.agg #[.bool false, .slice none 0 0, .slice none 0 0]), 3, 56) := by kernel_rfl
end Wal
end Go.Proofs.Ytlfelpbcnpjneaa
