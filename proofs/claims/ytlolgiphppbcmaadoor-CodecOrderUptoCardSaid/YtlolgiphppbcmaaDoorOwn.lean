/- Rows of a call's own: appends with few side goals. No program in sight. -/
import Derived.Test.YtlolgiphppbcmaaDoorBytes
import Derived.Maps.AppendAt
namespace Go.Proofs.YtlolgiphppbcmaaDoor
open Go.RowKit
section
variable {P : Program} {w : World} {base : Nat} {e : TypeId} {size : Nat} {v : Value} {n : Nat} {xs : List Value}

theorem own_mono {b' : Nat} (h : w.ownsRow base e size v n xs) (hb : b' ≤ base) : w.ownsRow b' e size v n xs := by
  obtain ⟨h1, h2⟩ := h
  refine ⟨h1, ?_⟩
  rcases h2 with h2 | ⟨g, cap, cur, hv, hg, r⟩
  · exact .inl h2
  · exact .inr ⟨g, cap, cur, hv, by omega, r⟩
/-- what a row of the call's own is, whatever has been laid since -/
theorem own_below {w' : World} (h : w.ownsRow base e size v n xs) (hb : Below w.heap.size w w') : w'.ownsRow base e size v n xs := by
  obtain ⟨h1, h2⟩ := h
  refine ⟨h1, ?_⟩
  rcases h2 with h2 | ⟨g, cap, cur, hv, hg, hh, r⟩
  · exact .inl h2
  · exact .inr ⟨g, cap, cur, hv, hg, (hb.block g (Array.getElem?_eq_some_iff.1 hh).1).trans hh, r⟩
theorem own_drewN (h : w.ownsRow base e size v n xs) (k : Nat) : (w.drewN k).ownsRow base e size v n xs := h
theorem own_len (h : w.ownsRow base e 1 v n xs) : xs.length = n := by have := h.1; omega
/-- its form -/
theorem own_form (h : w.ownsRow base e size v n xs) : ∃ ao cap, v = .slice ao n cap ∧ n ≤ cap ∧ cap ≤ 9223372036854775807 ∧ (ao = none → n = 0 ∧ cap = 0) ∧ ∀ a, ao = some a → a = ⟨a.block, 0, none⟩ ∧ base ≤ a.block ∧ a.block < w.heap.size := by
  rcases h.2 with ⟨rfl, rfl⟩ | ⟨g, cap, cur, rfl, hg, hh, hnc, hm, _⟩
  · exact ⟨none, 0, rfl, by omega, by omega, fun _ => ⟨rfl, rfl⟩, fun _ h => by cases h⟩
  · exact ⟨_, cap, rfl, hnc, by unfold maxLen at hm; omega, fun h => (by cases h), fun a ha => by cases ha; exact ⟨rfl, hg, (Array.getElem?_eq_some_iff.1 hh).1⟩⟩
/-- element k of a row of one-cell elements -/
theorem own_at {ao : Option Addr} {n cap k : Nat} (h : w.ownsRow base e 1 (.slice ao n cap) n xs) (hk : k < n) :
    ∃ g x, ao = some ⟨g, 0, none⟩ ∧ base ≤ g ∧ g < w.heap.size ∧ Hid (xs[k]? = some x) ∧ w.cell? ⟨g, k, none⟩ = some x ∧ w.frozen? ⟨g, k, none⟩ = false := by
  have hlen := own_len h
  obtain ⟨h1, h2⟩ := h
  rcases h2 with ⟨hv, rfl⟩ | ⟨g, cap', cur, hv, hg, hh, hnc, hm, hs, ht⟩
  · omega
  · simp only [Value.slice.injEq] at hv
    obtain ⟨rfl, _, rfl⟩ := hv
    have hx : xs[k]? = some (xs[k]'(by omega)) := List.getElem?_eq_getElem (by omega)
    refine ⟨g, _, rfl, hg, (Array.getElem?_eq_some_iff.1 hh).1, hx, ?_, frozen_of_row w g k cur e hh⟩
    rw [cell_of_row w g k cur e (0, 0) hh, ← hx, ← ht, List.getElem?_take, if_pos (by omega)]
    simp
/-- below 'base' nothing turns -/
theorem below_own {w' : World} {row : Option Nat} (hg : w.grownBy w' row) (hb : base ≤ w.heap.size) (hr : ∀ k, row = some k → base ≤ k) : Below base w w' :=
  (Below.refl base w).grown hg hb hr

/-- append(out, x), x laid in a new block just before -/
theorem wpList_append_one {ops : Array Oper} {rest : List Oper} {o : Oper} {a : Act} {Q : Exit → Act → World → Prop} (s x : Operand) (t : TypeId) (hgd : o.guard = none)
    (ho : o.op = .call { callee := .builtin .append, args := #[s, x], argTypes := #[t, t] })
    (i : TypeInfo) (z : Value) (bytes : Nat) (ht : P.underlying t = some (.slice e)) (hi : P.info? e = some i) (hz : i.zero = some z)
    (hsize : i.size = 1) (hby : i.bytes = bytes) (hzs : z.cells.size = 1) (u : Value) (hs : a.eval s = v) (hx : a.eval x = .slice (some ⟨w.heap.size, 0, none⟩) 1 1)
    (hown : w.ownsRow base e 1 v n xs) (hu : u.oneCell' = true) (hn : n < 9223372036854775807) (hbytes : (n + 1) * bytes ≤ 140737488355328) (hbase : base ≤ w.heap.size)
    (h : ∀ v' w1, w1.ownsRow base e 1 v' (n + 1) (xs ++ [u]) → Below base w w1 → wpList P ops Q rest (a.put o.dst v') w1) :
    wpList P ops Q (o :: rest) a (w.alloc (.cells #[u] e)) := by
  refine wpList_append_own (w.alloc (.cells #[u] e)) hgd s x t ho base e i z 1 bytes ht hi hz hsize hby hzs (by decide) v n xs hs (hown.alloc _) ⟨w.heap.size, 0, none⟩ 1 1 [u] hx rfl (cell_one_new _ _ _) (fun y hy => by simp at hy; subst hy; exact hu)
    (by unfold maxLen; omega) hbytes (by simp; omega) ?_
  intro v' w1 h1 h2 _
  refine h v' w1 h1 ?_
  refine ((Below.refl base w).alloc hbase (.cells #[u] e)).trans ?_
  exact below_own h2 (by simp; omega) (fun k hk => (hown.lt k hk).1)

/-- append(out, src...), src a []byte -/
theorem wpList_append_bytes {ops : Array Oper} {rest : List Oper} {o : Oper} {a : Act} {Q : Exit → Act → World → Prop} (s x : Operand) (t : TypeId) (hgd : o.guard = none)
    (ho : o.op = .call { callee := .builtin .append, args := #[s, x], argTypes := #[t, t] })
    (i : TypeInfo) (z : Value) (ht : P.underlying t = some (.slice e)) (hi : P.info? e = some i) (hz : i.zero = some z)
    (hsize : i.size = 1) (hby : i.bytes = 1) (hzs : z.cells.size = 1) (u : Value) (l m : List Int) (hs : a.eval s = v) (hx : a.eval x = u)
    (hown : w.ownsRow base e 1 v n (l.map (Value.int .u8))) (hu : IsB w u m) (hn : n + m.length ≤ 140737488355328) (hbase : base ≤ w.heap.size)
    (h : ∀ v' w1, w1.ownsRow base e 1 v' (n + m.length) ((l ++ m).map (Value.int .u8)) → Below base w w1 → wpList P ops Q rest (a.put o.dst v') w1) :
    wpList P ops Q (o :: rest) a w := by
  have hrow : ∀ k, v.ownBlock = some k → base ≤ k := fun k hk => (hown.lt k hk).1
  obtain ⟨h0, ao, cap, rfl, h2, h3, h4, h5⟩ := hu
  have nilway : m = [] → ∀ v', v' = v → wpList P ops Q rest (a.put o.dst v') w := fun hm v' hv => by
    subst hm; subst hv
    exact h v' w (by simpa using hown) (Below.refl _ _)
  rcases ao with _ | ad
  · obtain ⟨rfl, rfl⟩ := h4 rfl
    refine wpList_plain hgd fun K hK => ?_
    unfold Oper.wp execOp
    have hrun : (Builtin.append_ #[t, t] o.type #[v, .slice none 0 0]).run P w = .ok v w := by
      rcases hown.2 with ⟨rfl, rfl⟩ | ⟨g, cap, cur, rfl, _, _, hnc, _⟩
      · simp [Builtin.append_, run_underlying ht, sizeOf, typeInfo, hi, Builtin.lenOf, Builtin.firstCells]
      · simp [Builtin.append_, run_underlying ht, sizeOf, typeInfo, hi, Builtin.lenOf, Builtin.firstCells, hnc, storeCells]
    simp only [ho, resolve, invoke, builtin, Sem.run_bind, Sem.run_pure, Result.andThen_ok, List.map_toArray, List.map_cons, List.map_nil, hs, hx, List.length_nil, hrun]
    exact hK _ _ (nilway rfl v rfl)
  · refine wpList_append_own w hgd s x t ho base e i z 1 1 ht hi hz hsize hby hzs (by decide) v n _ hs hown ad m.length cap (m.map (Value.int .u8)) hx (by simp) ?_ (ints_oneCell _ _) (by unfold maxLen; omega) (by omega) hbase ?_
    · intro j y hj
      have hjl : j < m.length := by
        rcases Nat.lt_or_ge j m.length with h | h
        · exact h
        · simp [List.getElem?_eq_none h] at hj
      obtain ⟨k1, k2, k3⟩ := h5 ad rfl (by omega)
      obtain ⟨b, o', s'⟩ := ad
      simp only at k1 k2 k3
      subst k1
      have hplain : (⟨b, o', none⟩ : Addr).add j = ⟨b, o' + j, none⟩ := by unfold Addr.add; split <;> simp_all
      rw [hplain, k3 j hjl]
      simp [List.getElem?_eq_getElem hjl] at hj
      subst hj
      simp [List.getD, hjl]
    · intro v' w1 k1 k2 _
      exact h v' w1 (by simpa using k1) (below_own k2 hbase hrow)
end
end Go.Proofs.YtlolgiphppbcmaaDoor
