/- append(out, bs...) with its own block as the frame. No program in sight. -/
import Derived.Test.YtlolgiphppbcmaaDoorOwn2
namespace Go.Proofs.YtlolgiphppbcmaaDoor
open Go.RowKit
section
variable {P : Program} {w : World} {base : Nat} {e : TypeId} {size : Nat} {v : Value} {n : Nat} {xs : List Value}

theorem wpList_append_bytes' {ops : Array Oper} {rest : List Oper} {o : Oper} {a : Act} {Q : Exit → Act → World → Prop} (s x : Operand) (t : TypeId) (hgd : o.guard = none)
    (ho : o.op = .call { callee := .builtin .append, args := #[s, x], argTypes := #[t, t] })
    (i : TypeInfo) (z : Value) (ht : P.underlying t = some (.slice e)) (hi : P.info? e = some i) (hz : i.zero = some z)
    (hsize : i.size = 1) (hby : i.bytes = 1) (hzs : z.cells.size = 1) (u : Value) (l m : List Int) (hs : a.eval s = v) (hx : a.eval x = u)
    (hown : w.ownsRow base e 1 v n (l.map (Value.int .u8))) (hu : IsB w u m) (hn : n + m.length ≤ 140737488355328) (hbase : base ≤ w.heap.size)
    (h : ∀ v' w1, w1.ownsRow base e 1 v' (n + m.length) ((l ++ m).map (Value.int .u8)) → w.grownBy w1 v.ownBlock → (v'.ownBlock = v.ownBlock ∨ v'.ownBlock = some w.heap.size) → wpList P ops Q rest (a.put o.dst v') w1) :
    wpList P ops Q (o :: rest) a w := by
  obtain ⟨h0, ao, cap, rfl, h2, h3, h4, h5⟩ := hu
  have nilway : m = [] → ∀ v', v' = v → wpList P ops Q rest (a.put o.dst v') w := fun hm v' hv => by
    subst hm; subst hv
    exact h v' w (by simpa using hown) (gb_refl _ _) (.inl rfl)
  rcases ao with _ | ad
  · obtain ⟨rfl, rfl⟩ := h4 rfl
    refine wpList_plain hgd fun K hK => ?_
    unfold Oper.wp execOp
    have hrun : (Builtin.append_ #[t, t] o.type #[v, .slice none 0 0]).run P w = .ok v w := by
      rcases hown.2 with ⟨rfl, rfl⟩ | ⟨g, cap, cur, rfl, _, _, hnc, _⟩
      · simp [Builtin.append_, run_underlying ht, sizeOf, typeInfo, hi, Builtin.lenOf, Builtin.firstCells]
      · simp [Builtin.append_, run_underlying ht, sizeOf, typeInfo, hi, Builtin.lenOf, Builtin.firstCells, hnc, storeCells]
    simp only [ho, resolve, invoke, builtin, Sem.run_bind, Sem.run_pure, Result.andThen_ok, List.map_toArray, List.map_cons, List.map_nil, hs, hx, List.length_nil, hrun]
    exact hK _ _ (nilway rfl v rfl)
  · refine wpList_append_own_at (w := w) hgd s x t ho base e i z 1 1 ht hi hz hsize hby hzs (by decide) v n _ hs hown ad m.length cap (m.map (Value.int .u8)) hx (by simp) ?_ (ints_oneCell _ _) (by unfold maxLen; omega) (by omega) hbase ?_
    · intro j y hj
      have hjl : j < m.length := by
        rcases Nat.lt_or_ge j m.length with h | h
        · exact h
        · simp [List.getElem?_eq_none h] at hj
      obtain ⟨k1, k2, k3⟩ := h5 ad rfl (by omega)
      obtain ⟨b, o', s'⟩ := ad
      simp only at k1 k2 k3
      subst k1
      have hplain : (⟨b, o', none⟩ : Addr).add j = ⟨b, o' + j, none⟩ := by unfold Addr.add; split <;> simp_all
      rw [hplain, k3 j hjl]
      simp [List.getElem?_eq_getElem hjl] at hj
      subst hj
      simp [List.getD, hjl]
    · intro v' w1 k1 k2 _ k3
      exact h v' w1 (by simpa using k1) k2 k3
end
end Go.Proofs.YtlolgiphppbcmaaDoor
