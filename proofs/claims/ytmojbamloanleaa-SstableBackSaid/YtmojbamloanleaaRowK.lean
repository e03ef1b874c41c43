/- Rows of the call's own with elements of any size: beginnings, rests, copies, appended zeros. No program in sight. -/
import Derived.Test.YtmojbamloanleaaKit
import Derived.Lib.AppendZerosOnto
import Derived.Lib.Overlaps
set_option linter.unusedVariables false
set_option linter.unusedSimpArgs false
namespace Go.Proofs.Ytmojbamloanleaa
open Go.RowKit
section
variable {w : World} {base : Nat} {e : TypeId} {size : Nat} {g n cap : Nat} {xs : List Value}
/-- an own row with an address: the row itself -/
theorem own_row (h : w.ownsRow base e size (.slice (some ⟨g, 0, none⟩) n cap) n xs) :
    ∃ cur : Array Value, base ≤ g ∧ w.heap[g]? = some (.cells cur e (0, 0)) ∧ n ≤ cap ∧ cap ≤ maxLen ∧ cur.size = cap * size ∧ cur.toList.take (n * size) = xs := by
  rcases h.2 with ⟨hv, -⟩ | ⟨g', cap', cur, hv, hg, hh, hnc, hm, hcs, ht⟩
  · cases hv
  · simp only [Value.slice.injEq, Option.some.injEq, Addr.mk.injEq, and_true, true_and] at hv
    obtain ⟨rfl, rfl⟩ := hv
    exact ⟨cur, hg, hh, hnc, hm, hcs, ht⟩
/-- the beginning of a row of the call's own -/
theorem own_prefix (h : w.ownsRow base e size (.slice (some ⟨g, 0, none⟩) n cap) n xs) {i : Nat} (hi : i ≤ n) :
    w.ownsRow base e size (.slice (some ⟨g, 0, none⟩) i cap) i (xs.take (i * size)) := by
  obtain ⟨cur, hg, hh, hnc, hm, hcs, ht⟩ := own_row h
  have hle : i * size ≤ n * size := Nat.mul_le_mul_right _ hi
  refine ⟨by rw [List.length_take, h.1, Nat.min_eq_left hle], .inr ⟨g, cap, cur, rfl, hg, hh, by omega, hm, hcs, ?_⟩⟩
  rw [← ht, List.take_take, Nat.min_eq_left hle]
/-- the row with some of its room -/
theorem own_stretch (h : w.ownsRow base e size (.slice (some ⟨g, 0, none⟩) n cap) n xs) {m : Nat} (hm : n + m ≤ cap) :
    ∃ ys, ys.length = m * size ∧ w.ownsRow base e size (.slice (some ⟨g, 0, none⟩) (n + m) cap) (n + m) (xs ++ ys) := by
  obtain ⟨cur, hg, hh, hnc, hmx, hcs, ht⟩ := own_row h
  have hle : (n + m) * size ≤ cap * size := Nat.mul_le_mul_right _ hm
  have hcl : cur.toList.length = cap * size := by rw [Array.length_toList, hcs]
  refine ⟨(cur.toList.drop (n * size)).take (m * size), ?_, ?_, .inr ⟨g, cap, cur, rfl, hg, hh, hm, hmx, hcs, ?_⟩⟩
  · rw [List.length_take, List.length_drop, hcl]
    rw [Nat.add_mul] at hle
    omega
  · rw [List.length_append, h.1, List.length_take, List.length_drop, hcl]
    rw [Nat.add_mul] at hle ⊢
    omega
  · rw [← ht, Nat.add_mul, List.take_add]
/-- a cell of it -/
theorem own_cell' (h : w.ownsRow base e size (.slice (some ⟨g, 0, none⟩) n cap) n xs) {j : Nat} {u : Value} (hj : xs[j]? = some u) : w.cell? ⟨g, j, none⟩ = some u := by
  obtain ⟨g', hg, -, -, hc⟩ := own_cell h hj
  cases hg
  exact hc
theorem own_lt (h : w.ownsRow base e size (.slice (some ⟨g, 0, none⟩) n cap) n xs) : base ≤ g ∧ g < w.heap.size := by
  obtain ⟨cur, hg, hh, -⟩ := own_row h
  exact ⟨hg, (Array.getElem?_eq_some_iff.1 hh).1⟩
theorem own_kept {w' : World} {row : Option Nat} {v : Value} (h : w.ownsRow base e size v n xs) (hg : w.grownBy w' row) (hne : v.ownBlock = none ∨ v.ownBlock ≠ row) : w'.ownsRow base e size v n xs := by
  obtain ⟨h1, h2⟩ := h
  refine ⟨h1, ?_⟩
  rcases h2 with h2 | ⟨g, cap, cur, rfl, hbg, hh, h3⟩
  · exact .inl h2
  · refine .inr ⟨g, cap, cur, rfl, hbg, ?_, h3⟩
    rw [hg.block g (Array.getElem?_eq_some_iff.1 hh).1 (by
      rcases hne with hne | hne
      · cases hne
      · exact fun e => hne e)]
    exact hh
end
theorem gb_fresh {w W W' : World} {row r2 : Option Nat} (h : w.grownBy W row) (k : W.grownBy W' r2) (hr : ∀ b, r2 = some b → w.heap.size ≤ b) : w.grownBy W' row :=
  ⟨k.os.trans h.os, k.tape.trans h.tape, k.output.trans h.output, Nat.le_trans h.size k.size, fun i hi hn => (k.block i (Nat.lt_of_lt_of_le hi h.size) (fun e => by have := hr i e.symm; omega)).trans (h.block i hi hn)⟩
theorem gb_drewN {w W : World} {row : Option Nat} (h : w.grownBy W row) (n : Nat) : w.grownBy (W.drewN n) row := ⟨h.os, h.tape, h.output, h.size, h.block⟩
theorem gb_cell' {W W' : World} {b o : Nat} (h : W.grownBy W' none) (hlt : b < W.heap.size) : W'.cell? ⟨b, o, none⟩ = W.cell? ⟨b, o, none⟩ :=
  World.cell?_of_block (h.block b hlt (fun e => by cases e))
theorem list_splice2 {α : Type} {A zs B D : List α} {p q d r s : Nat} (hA : A.length = p) (hB : B.length = q) (hD : D.length = d) (hz : zs.length = q + d) (hr : r = p + q) (hs : s = p + q + d) :
    (((A ++ zs).take p ++ B ++ (A ++ zs).drop r).take r ++ D ++ ((A ++ zs).take p ++ B ++ (A ++ zs).drop r).drop s) = A ++ B ++ D := by
  subst hA hB hD hr hs
  have e1 : (A ++ zs).take A.length = A := List.take_left
  have e2 : (A ++ B).length = A.length + B.length := List.length_append
  rw [e1]
  rw [show (A ++ B ++ (A ++ zs).drop (A.length + B.length)).take (A.length + B.length) = A ++ B by rw [← e2]; exact List.take_left]
  rw [List.drop_eq_nil_of_le (by simp only [List.length_append, List.length_drop]; omega), List.append_nil]
theorem list_splice3 {α : Type} {xs ys B D : List α} {a b s : Nat} (ha : a ≤ b) (haN : a ≤ xs.length) (hb : b ≤ xs.length + ys.length) (hs : xs.length + ys.length ≤ s) :
    ((xs ++ ys).take b ++ D ++ (xs ++ ys).drop s).take a ++ B ++ ((xs ++ ys).take b ++ D ++ (xs ++ ys).drop s).drop b = xs.take a ++ B ++ D := by
  have e0 : (xs ++ ys).drop s = [] := List.drop_eq_nil_of_le (by rw [List.length_append]; exact hs)
  have e1 : ((xs ++ ys).take b).length = b := by rw [List.length_take, List.length_append]; omega
  rw [e0, List.append_nil]
  have e2 : ((xs ++ ys).take b ++ D).drop b = D := by rw [List.drop_append, e1, List.drop_eq_nil_of_le (by omega), Nat.sub_self]; rfl
  rw [e2]
  rw [List.take_append_of_le_length (by omega), List.take_take, Nat.min_eq_left ha, List.take_append_of_le_length haN]
section
variable {P : Program} {w : World} {base : Nat} {e : TypeId} {size : Nat} {g n cap : Nat} {xs : List Value} {ops : Array Oper} {rest : List Oper} {o : Oper} {a : Act} {Q : Exit → Act → World → Prop}
theorem run_sizeOf_info {i : TypeInfo} {e : TypeId} (hi : P.info? e = some i) (w : World) : (Go.sizeOf e).run P w = .ok i.size w := by simp [sizeOf, typeInfo, hi]
/-- copy into a row of the call's own, from element k on -/
theorem run_copy_cells (dT sT ty : TypeId) (i : TypeInfo) (hu : P.underlying dT = some (.slice e)) (hi : P.info? e = some i) (hsize : i.size = size) (k m dl dc sc off : Nat) (ad : Addr) (hoff : off = k * size) (hm : m ≤ dl) (hkm : k + m ≤ n)
    (hown : w.ownsRow base e size (.slice (some ⟨g, 0, none⟩) n cap) n xs) (news : List Value) (hl : news.length = m * size) (hnews : ∀ j u, news[j]? = some u → w.cell? (ad.add j) = some u) (h1 : ∀ u ∈ news, u.oneCell' = true) :
    ∃ w', (Builtin.copy_ #[dT, sT] ty #[.slice (some ⟨g, off, none⟩) dl dc, .slice (some ad) m sc]).run P w = .ok (goInt m) w' ∧ w'.ownsRow base e size (.slice (some ⟨g, 0, none⟩) n cap) n (xs.take (k * size) ++ news ++ xs.drop ((k + m) * size)) ∧ w.grownBy w' (some g) ∧ w'.heap.size = w.heap.size := by
  obtain ⟨cur, hg, hh, hnc, hmx, hcs, ht⟩ := own_row hown
  subst hoff
  have hxl := hown.1
  have e1 : k * size + m * size = (k + m) * size := (Nat.add_mul _ _ _).symm
  have e2 : (k + m) * size ≤ n * size := Nat.mul_le_mul_right _ hkm
  have e3 : n * size ≤ cap * size := Nat.mul_le_mul_right _ hnc
  have hfc : (Builtin.firstCells size m (.slice (some ad) m sc)).run P w = .ok news.toArray w := run_firstCells_some (P := P) (w := w) size m ad m sc news hl hnews
  have hst := run_storeCells_at P g (k * size) e news 0 cur w hh (by omega) h1
  have hmin : Nat.min m dl = m := Nat.min_eq_left hm
  have hcl : cur.toList.length = cap * size := by rw [Array.length_toList, hcs]
  refine ⟨_, ?_, ?_, gb_setRow (g := g) (cur.toList.take (k * size + 0) ++ news ++ cur.toList.drop (k * size + 0 + news.length)).toArray, by simp [World.setRow]⟩
  · simp only [Builtin.copy_, List.getElem?_toArray, List.getElem?_cons_zero, List.getElem?_cons_succ, Sem.run_bind, Sem.run_pure, run_underlying hu, run_sizeOf_info hi, Result.andThen_ok, Builtin.lenOf, hmin, hsize, hfc, hst]
  · refine ⟨?_, .inr ⟨g, cap, _, rfl, hg, setRow_heap w g cur _ e (0, 0) hh, hnc, hmx, ?_, ?_⟩⟩
    · simp only [List.length_append, List.length_take, List.length_drop, hxl, hl]
      omega
    · simp only [List.size_toArray, List.length_append, List.length_take, List.length_drop, hcl, hl]
      omega
    · simp only [Nat.add_zero, hl]
      rw [e1, ← ht, List.take_take, Nat.min_eq_left (by omega), List.append_assoc, List.append_assoc, List.take_append, List.take_of_length_le (by rw [List.length_take]; omega)]
      congr 1
      rw [List.take_append, List.take_of_length_le (by rw [hl, List.length_take, hcl]; omega)]
      congr 1
      rw [List.drop_take]
      congr 1
      rw [List.length_take, hl, hcl]
      omega
/-- the guard of an arm: the operation that yields slot k -/
theorem at_dst (k : Nat) (_hk : o.dst = some k) (h : wpList P ops Q (o :: rest) a w) : wpList P ops Q (o :: rest) a w := h
theorem wpList_copy_cells (hgd : o.guard = none) (d s : Operand) (dT sT : TypeId) (ho : o.op = .call { callee := .builtin .copy, args := #[d, s], argTypes := #[dT, sT] })
    (i : TypeInfo) (hu : P.underlying dT = some (.slice e)) (hi : P.info? e = some i) (hsize : i.size = size) (k m dl dc sc off : Nat) (ad : Addr) (hd : a.eval d = .slice (some ⟨g, off, none⟩) dl dc) (hs : a.eval s = .slice (some ad) m sc) (hoff : off = k * size) (hm : m ≤ dl) (hkm : k + m ≤ n)
    (hown : w.ownsRow base e size (.slice (some ⟨g, 0, none⟩) n cap) n xs) (news : List Value) (hl : news.length = m * size) (hnews : ∀ j u, news[j]? = some u → w.cell? (ad.add j) = some u) (h1 : ∀ u ∈ news, u.oneCell' = true)
    (h : ∀ w', w'.ownsRow base e size (.slice (some ⟨g, 0, none⟩) n cap) n (xs.take (k * size) ++ news ++ xs.drop ((k + m) * size)) → w.grownBy w' (some g) → w'.heap.size = w.heap.size → wpList P ops Q rest (a.put o.dst (goInt m)) w') : wpList P ops Q (o :: rest) a w := by
  obtain ⟨w', hr, h2, h3, h4⟩ := run_copy_cells dT sT o.type i hu hi hsize k m dl dc sc off ad hoff hm hkm hown news hl hnews h1
  refine wpList_plain hgd fun K hK => ?_
  unfold Oper.wp execOp
  simp only [ho, resolve, invoke, builtin, Sem.run_bind, Sem.run_pure, Result.andThen_ok, List.map_toArray, List.map_cons, List.map_nil, hd, hs, hr]
  exact hK _ _ (h w' h2 h3 h4)
/-- append(s, make([]T, k)...) where there is no room: a new row -/
theorem wpList_append_zeros (hgd : o.guard = none) (s x : Operand) (t tn : TypeId) (ho : o.op = .call { callee := .builtin .append, args := #[s, x], argTypes := #[t, tn] })
    (i : TypeInfo) (z : Value) (bytes : Nat) (kn kq : IntKind) (ht : P.underlying t = some (.slice e)) (htn : P.underlying tn = some (.int kn)) (hi : P.info? e = some i) (hz : i.zero = some z) (hsize : i.size = size) (hby : i.bytes = bytes) (hzs : z.cells.size = size) (hsz : 0 < size)
    (hs : a.eval s = .slice (some ⟨g, 0, none⟩) n cap) (k : Nat) (hx : a.eval x = .int kq k) (h0 : 0 < k) (hroom : cap < n + k) (hcap : (n + k) * bytes ≤ 140737488355328) (h63 : n + k ≤ maxLen)
    (hown : w.ownsRow base e size (.slice (some ⟨g, 0, none⟩) n cap) n xs)
    (h : ∀ cap' zs w', zs.length = k * size → n + k ≤ cap' → cap' ≤ maxLen → w'.ownsRow w.heap.size e size (.slice (some ⟨w.heap.size, 0, none⟩) (n + k) cap') (n + k) (xs ++ zs) → w.grownBy w' none → w'.heap.size = w.heap.size + 1 →
      wpList P ops Q rest (a.put o.dst (.slice (some ⟨w.heap.size, 0, none⟩) (n + k) cap')) w') : wpList P ops Q (o :: rest) a w := by
  have hxl := hown.1
  obtain ⟨cur, hg, hh, hnc, hmx, hcs, hta⟩ := own_row hown
  have h63' := h63
  unfold maxLen at h63'
  have hold : (Builtin.firstCells i.size n (.slice (some ⟨g, 0, none⟩) n cap)).run P w.drew = .ok xs.toArray w.drew :=
    run_firstCells_some (P := P) (w := w.drew) i.size n ⟨g, 0, none⟩ n cap xs (by rw [hsize]; exact hxl) (fun j u hj => by rw [plain_add', Nat.zero_add]; exact own_cell' hown hj)
  have hr := Lib.run_append_grow_zeros (P := P) w t tn o.type e i z kq kn ht htn hi hz (some ⟨g, 0, none⟩) n cap xs hold k h0 (by omega) hroom (by omega) (by rw [hby]; have : k * bytes ≤ (n + k) * bytes := Nat.mul_le_mul_right _ (by omega); omega) (by rw [hby]; exact growslice_fits (by omega) hcap)
  refine Lib.wpList_append_run w hgd s x t tn ho _ _ hs hx _ _ hr ?_
  have hge := grownCap_ge w (n + k) cap e
  have hcm : grownCap w (n + k) cap e ≤ maxLen := grownCap_le_maxLen w (n + k) cap e h63
  refine h _ (Builtin.zeroCells z.cells k).toList _ (by rw [Array.length_toList, size_zeroCells, hzs]) hge hcm ⟨?_, .inr ⟨_, _, _, rfl, Nat.le_refl _, heap_alloc_new w.drew _, hge, hcm, ?_, ?_⟩⟩ ⟨rfl, rfl, rfl, by simp, fun j hj _ => heap_alloc_old w.drew _ hj⟩ (by simp)
  · rw [List.length_append, hxl, Array.length_toList, size_zeroCells, hzs, Nat.add_mul]
  · simp only [Array.size_append, List.size_toArray, size_zeroCells, hzs, hxl, ← Nat.add_mul]
    congr 1
    omega
  · simp only [Array.toList_append]
    rw [show (n + k) * size = (xs ++ (Builtin.zeroCells z.cells k).toList).length by rw [List.length_append, hxl, Array.length_toList, size_zeroCells, hzs, Nat.add_mul]]
    exact List.take_left
end
end Go.Proofs.Ytmojbamloanleaa
