/- make([]byte, n); rows of a call's own while others turn. No program in sight. -/
import Derived.Test.YtlolgiphppbcmaaDoorOwn
import Derived.Test.YtlolgiphppbcmaaDoorMore
namespace Go.Proofs.YtlolgiphppbcmaaDoor
open Go.RowKit
theorem made_bytes (n : Nat) : (madeCells (Value.int .u8 0).cells (n * 1)).toList = (List.replicate n (0 : Int)).map (Value.int .u8) := by
  rw [List.map_replicate, Nat.mul_one]
  unfold madeCells
  rw [Array.toList_map, Array.toList_range]
  refine List.eq_replicate_iff.2 ⟨by simp, fun x hx => ?_⟩
  rw [List.mem_map] at hx
  obtain ⟨k, _, rfl⟩ := hx
  simp [Value.cells, Nat.mod_one]
theorem plain_add' (b o i : Nat) : (⟨b, o, none⟩ : Addr).add i = ⟨b, o + i, none⟩ := by unfold Addr.add; split <;> simp_all
section
variable {P : Program} {w : World} {base : Nat} {e : TypeId} {size : Nat} {v : Value} {n : Nat} {xs : List Value}
theorem wpList_make_bytes {ops : Array Oper} {rest : List Oper} {o : Oper} {a : Act} {Q : Exit → Act → World → Prop} (hg : o.guard = none) (l c : Operand) (t : TypeId) (hop : o.op = Op.makeSlice t l c)
    (i : TypeInfo) (h1 : P.underlying t = some (.slice e)) (h2 : P.info? e = some i) (h3 : i.zero = some (.int .u8 0)) (h4 : i.size = 1) (h5 : i.bytes = 1)
    (L C : Int) (n : Nat) (hl : a.eval l = .int .i64 L) (hc : a.eval c = .int .i64 C) (hL : L = (n : Int)) (hC : C = (n : Int)) (b2 : n ≤ 281474976710656) (b4 : base ≤ w.heap.size)
    (hK : ∀ w', w'.ownsRow base e 1 (.slice (some ⟨w.heap.size, 0, none⟩) n n) n ((List.replicate n (0 : Int)).map (Value.int .u8)) → Below w.heap.size w w' → w.heap.size < w'.heap.size → wpList P ops Q rest (a.put o.dst (.slice (some ⟨w.heap.size, 0, none⟩) n n)) w') :
    wpList P ops Q (o :: rest) a w := by
  refine wpList_make_full w hg l c t hop base e i (.int .u8 0) 1 h1 h2 h3 h4 .i64 .i64 L C n hl hc hL hC (by rw [h5]; omega) (by unfold maxLen; omega) b4 ?_
  intro w' k1 k2
  rw [made_bytes] at k1
  exact hK w' k1 (below_own k2 (Nat.le_refl _) (fun k hk => by cases hk)) (k1.lt _ rfl).2
theorem own_set_other (h : w.ownsRow base e size v n xs) {p : Addr} (hp : v.ownBlock ≠ some p.block) (u : Value) : (w.setCell p u).ownsRow base e size v n xs := by
  obtain ⟨h1, h2⟩ := h
  refine ⟨h1, ?_⟩
  rcases h2 with h2 | ⟨g, cap, cur, rfl, hg, hh, r⟩
  · exact .inl h2
  · refine .inr ⟨g, cap, cur, rfl, hg, (Below.heap_setCell w p u g (fun e => hp (by rw [← e]; rfl))).trans hh, r⟩
theorem own_own_ne {base' n' size' : Nat} {e' : TypeId} {v' : Value} {xs' : List Value} (h : w.ownsRow base e size v n xs) (h' : w.ownsRow base' e' size' v' n' xs') (hne : e ≠ e') : v.ownBlock = none ∨ v.ownBlock ≠ v'.ownBlock := by
  rcases h.2 with ⟨rfl, _⟩ | ⟨g, cap, cur, rfl, _, hh, _⟩
  · exact .inl rfl
  · rcases h'.2 with ⟨rfl, _⟩ | ⟨g', cap', cur', rfl, _, hh', _⟩
    · exact .inr (by simp [Value.ownBlock])
    · refine .inr fun he => ?_
      have : g = g' := by simpa [Value.ownBlock] using he
      subst this
      rw [hh] at hh'
      injection hh' with hh'
      injection hh' with _ ht
      exact hne ht
/-- append(out, x), and what turns: out's block alone -/
theorem wpList_append_one' {ops : Array Oper} {rest : List Oper} {o : Oper} {a : Act} {Q : Exit → Act → World → Prop} (s x : Operand) (t : TypeId) (hgd : o.guard = none)
    (ho : o.op = .call { callee := .builtin .append, args := #[s, x], argTypes := #[t, t] })
    (i : TypeInfo) (z : Value) (bytes : Nat) (ht : P.underlying t = some (.slice e)) (hi : P.info? e = some i) (hz : i.zero = some z)
    (hsize : i.size = 1) (hby : i.bytes = bytes) (hzs : z.cells.size = 1) (u : Value) (hs : a.eval s = v) (hx : a.eval x = .slice (some ⟨w.heap.size, 0, none⟩) 1 1)
    (hown : w.ownsRow base e 1 v n xs) (hu : u.oneCell' = true) (hn : n < 9223372036854775807) (hbytes : (n + 1) * bytes ≤ 140737488355328) (hbase : base ≤ w.heap.size)
    (h : ∀ v' w1, w1.ownsRow base e 1 v' (n + 1) (xs ++ [u]) → w.grownBy w1 v.ownBlock → wpList P ops Q rest (a.put o.dst v') w1) :
    wpList P ops Q (o :: rest) a (w.alloc (.cells #[u] e)) := by
  refine wpList_append_own (w.alloc (.cells #[u] e)) hgd s x t ho base e i z 1 bytes ht hi hz hsize hby hzs (by decide) v n xs hs (hown.alloc _) ⟨w.heap.size, 0, none⟩ 1 1 [u] hx rfl (cell_one_new _ _ _) (fun y hy => by simp at hy; subst hy; exact hu)
    (by unfold maxLen; omega) hbytes (by simp; omega) ?_
  intro v' w1 h1 h2 _
  refine h v' w1 h1 ?_
  exact World.grownBy.trans (gb_alloc (gb_refl w _) _) h2
/-- append(out, x, y), laid in a new block just before -/
theorem wpList_append_two {ops : Array Oper} {rest : List Oper} {o : Oper} {a : Act} {Q : Exit → Act → World → Prop} (s x : Operand) (t : TypeId) (hgd : o.guard = none)
    (ho : o.op = .call { callee := .builtin .append, args := #[s, x], argTypes := #[t, t] })
    (i : TypeInfo) (z : Value) (bytes : Nat) (ht : P.underlying t = some (.slice e)) (hi : P.info? e = some i) (hz : i.zero = some z)
    (hsize : i.size = 1) (hby : i.bytes = bytes) (hzs : z.cells.size = 1) (u u' : Value) (hs : a.eval s = v) (hx : a.eval x = .slice (some ⟨w.heap.size, 0, none⟩) 2 2)
    (hown : w.ownsRow base e 1 v n xs) (hu : u.oneCell' = true) (hu' : u'.oneCell' = true) (hn : n < 9223372036854775806) (hbytes : (n + 2) * bytes ≤ 140737488355328) (hbase : base ≤ w.heap.size)
    (h : ∀ v' w1, w1.ownsRow base e 1 v' (n + 2) (xs ++ [u, u']) → w.grownBy w1 v.ownBlock → wpList P ops Q rest (a.put o.dst v') w1) :
    wpList P ops Q (o :: rest) a (w.alloc (.cells #[u, u'] e)) := by
  refine wpList_append_own (w.alloc (.cells #[u, u'] e)) hgd s x t ho base e i z 1 bytes ht hi hz hsize hby hzs (by decide) v n xs hs (hown.alloc _) ⟨w.heap.size, 0, none⟩ 2 2 [u, u'] hx rfl ?_ (fun y hy => by simp at hy; rcases hy with rfl | rfl <;> assumption)
    (by unfold maxLen; omega) hbytes (by simp; omega) ?_
  · intro j y hj
    rw [plain_add']
    rw [cell_of_row _ w.heap.size (0 + j) _ e (0, 0) (heap_alloc_new w _)]
    simpa using hj
  · intro v' w1 h1 h2 _
    refine h v' w1 h1 ?_
    exact World.grownBy.trans (gb_alloc (gb_refl w _) _) h2
/-- grown by a row of the call's own: what lay below the call's blocks stands -/
theorem bel_own {w0 w' : World} (h : Below w0.heap.size w0 w) (hg : w.grownBy w' v.ownBlock) (ho : w.ownsRow w0.heap.size e size v n xs) : Below w0.heap.size w0 w' :=
  h.trans ((Below.refl _ _).grown hg h.size (fun k hk => (ho.lt k hk).1))
theorem own_below_set {w0 : World} (h : Below w0.heap.size w0 w) {p : Addr} (hp : w0.heap.size ≤ p.block) (u : Value) : Below w0.heap.size w0 (w.setCell p u) := h.setCell hp u
end
end Go.Proofs.YtlolgiphppbcmaaDoor
