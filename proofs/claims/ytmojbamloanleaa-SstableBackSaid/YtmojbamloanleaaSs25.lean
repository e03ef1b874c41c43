/- sstable: the blocks that a table's bytes read as, plain. sstable: what holds while Open reads the blocks: plain, and in memory. -/
import Derived.Test.YtmojbamloanleaaSs23
import Derived.Test.YtmojbamloanleaaSs19
set_option linter.unusedVariables false
set_option linter.unusedSimpArgs false
namespace Go.Proofs.Ytmojbamloanleaa
open Go.RowKit
namespace Ss
open Mt Codec
/-- a block that was read: from, to, its entries -/
abbrev Blk : Type := Nat × Nat × List En
/-- how many bytes the frame at the front has -/
def framN (l : List Int) : Nat := (takeFrameF l).2.2.1.toNat
/-- the blocks from a place on, and where they end; none: they are refused -/
def blocksF : Nat → List Int → Nat → Option (List Blk × Nat)
  | k, b, at_ => if b[at_]? = some 68 then
      match k with
      | 0 => none
      | k + 1 => match framR (b.drop at_) with
        | none => none
        | some [] => none
        | some (x :: l) => (blocksF k b (at_ + framN (b.drop at_))).map fun p => ((at_, at_ + framN (b.drop at_), x :: l) :: p.1, p.2)
    else some ([], at_)
/-- all entries of blocks -/
def allB (bs : List Blk) : List En := bs.flatMap fun p => p.2.2
/-- what Open answers: the blocks, and where the filter's frame stands -/
def openF (b : List Int) : Option (List Blk × Nat) :=
  if b.length < 40 ∨ 4194304 < b.length then none else
  match blocksF b.length b 0 with
  | none => none
  | some (bs, at_) =>
    let tail := b.drop (b.length - 40)
    let bb := lowF ((tail.drop 24).take 4)
    let pk := lowF ((tail.drop 28).take 4)
    if codeF (allB bs) bb pk = 0 ∧ tabF (allB bs) bb pk = b then some (bs, at_) else none
end Ss
end Go.Proofs.Ytmojbamloanleaa
namespace Go.Proofs.Ytmojbamloanleaa
open Go.RowKit
section
variable {P : Program} {w : World}
/-- a slice whose m elements (size cells each) are these cells -/
def SlC (w : World) (u : Value) (size m : Nat) (xs : List Value) : Prop := ∃ ao cap, u = .slice ao m cap ∧ xs.length = m * size ∧ m ≤ maxLen ∧ (ao = none → m = 0 ∧ cap = 0) ∧ ∀ ad, ao = some ad → ∀ j y, xs[j]? = some y → w.cell? (ad.add j) = some y
theorem wpList_append_slc {ops : Array Oper} {rest : List Oper} {o : Oper} {a : Act} {Q : Exit → Act → World → Prop} {base n size : Nat} {e : TypeId} {v : Value} {xs : List Value} (s x : Operand) (t : TypeId) (hgd : o.guard = none)
    (ho : o.op = .call { callee := .builtin .append, args := #[s, x], argTypes := #[t, t] })
    (i : TypeInfo) (z : Value) (bytes : Nat) (ht : P.underlying t = some (.slice e)) (hi : P.info? e = some i) (hz : i.zero = some z)
    (hsize : i.size = size) (hby : i.bytes = bytes) (hzs : z.cells.size = size) (hsz : 0 < size) (u : Value) (m : Nat) (news : List Value) (hs : a.eval s = v) (hx : a.eval x = u)
    (hown : w.ownsRow base e size v n xs) (hu : SlC w u size m news) (h1 : ∀ y ∈ news, y.oneCell' = true) (h63 : n + m ≤ maxLen) (hn : (n + m) * bytes ≤ 140737488355328) (hbase : base ≤ w.heap.size)
    (h : ∀ v' w1, w1.ownsRow base e size v' (n + m) (xs ++ news) → w.grownBy w1 v.ownBlock → wpList P ops Q rest (a.put o.dst v') w1) :
    wpList P ops Q (o :: rest) a w := by
  obtain ⟨ao, cap, rfl, h2, h3, h4, h5⟩ := hu
  rcases ao with _ | ad
  · obtain ⟨rfl, rfl⟩ := h4 rfl
    have hn0 : news = [] := List.eq_nil_of_length_eq_zero (by rw [h2, Nat.zero_mul])
    subst hn0
    refine wpList_plain hgd fun K hK => ?_
    unfold Oper.wp execOp
    have hrun : (Builtin.append_ #[t, t] o.type #[v, .slice none 0 0]).run P w = .ok v w := by
      rcases hown.2 with ⟨rfl, rfl⟩ | ⟨g, cap, cur, rfl, _, _, hnc, _⟩
      · simp [Builtin.append_, run_underlying ht, sizeOf, typeInfo, hi, Builtin.lenOf, Builtin.firstCells]
      · simp [Builtin.append_, run_underlying ht, sizeOf, typeInfo, hi, Builtin.lenOf, Builtin.firstCells, hnc, storeCells]
    simp only [ho, resolve, invoke, builtin, Sem.run_bind, Sem.run_pure, Result.andThen_ok, List.map_toArray, List.map_cons, List.map_nil, hs, hx, hrun]
    exact hK _ _ (h v w (by simpa using hown) (gb_refl w _))
  · refine wpList_append_own w hgd s x t ho base e i z size bytes ht hi hz hsize hby hzs hsz v n _ hs hown ad m cap news hx h2 (h5 ad rfl) h1 h63 hn hbase ?_
    intro v' w1 k1 k2 _
    exact h v' w1 k1 k2
end
namespace Mt
theorem c4_one {w : World} {base : Nat} {r : EV} (h : GoodE w base r) : ∀ u ∈ c4 r, u.oneCell' = true := by
  obtain ⟨h1, h2, -⟩ := h
  obtain ⟨a1, c1, e1, -⟩ := h1.form
  obtain ⟨a2, c2, e2, -⟩ := h2.form
  intro u hu
  unfold c4 at hu
  simp only [List.mem_cons, List.not_mem_nil, or_false] at hu
  rcases hu with rfl | rfl | rfl | rfl
  · rw [e1]; rfl
  · rfl
  · rfl
  · rw [e2]; rfl
theorem slc_es {w : World} {base : Nat} {v : Value} {rs : List EV} (ho : w.ownsRow base 46 4 v rs.length (rs.flatMap c4)) : SlC w v 4 rs.length (rs.flatMap c4) := by
  obtain ⟨ao, cap, rfl, h1, h2, h3, h4⟩ := own_form ho
  refine ⟨ao, cap, rfl, ho.1, by unfold maxLen; omega, h3, fun ad hao j y hy => ?_⟩
  obtain ⟨g, hg, -, -, hc⟩ := own_cell ho hy
  rw [hao] at hg
  cases hg
  rw [plain_add', Nat.zero_add]
  exact hc
theorem OwnEs.chg {S : Nat → Prop} {w w1 : World} {base : Nat} {v : Value} {l : List En} (h : OwnEs w base v l) (k : Chg S w w1) (hS : ∀ b cur t, w.heap[b]? = some (.cells cur t (0, 0)) → (t = 5 ∨ t = 46) → ¬ S b) : OwnEs w1 base v l := by
  obtain ⟨rs, rfl, ho, hg⟩ := h
  exact ⟨rs, rfl, k.own ho (fun b hb => by obtain ⟨-, -, cur, hc⟩ := own_typed ho b hb; exact hS b cur _ hc (.inr rfl)), fun r hr => (hg r hr).chg k (fun b cur hc => hS b cur _ hc (.inl rfl))⟩
end Mt
namespace Ss
open Mt Codec
theorem takeFrame_le (l : List Int) : (takeFrameF l).2.1.length ≤ l.length := by
  unfold takeFrameF
  repeat (first | split | simp)
  all_goals omega
/-- a frame that is read: how many bytes it has -/
theorem frame_bd {l : List Int} (hr : Rng l) (h : (takeFrameF l).2.2.2 = 0) : (takeFrameF l).2.2.1 = (framN l : Int) ∧ (takeFrameF l).2.1.length + 5 ≤ framN l ∧ framN l ≤ l.length := by
  have hb := lenF_bd (hr.drop 1) 4 (by decide)
  rw [List.length_drop] at hb
  unfold framN
  have hF : takeFrameF l = if l.length = 0 then (0, [], 0, 10)
    else if (lenF (l.drop 1) 4).2.2 ≠ 0 then (0, [], 0, (lenF (l.drop 1) 4).2.2)
    else if (l.drop ((lenF (l.drop 1) 4).2.1.toNat + 1)).take 4 ≠ le4 (sumsF (l.take ((lenF (l.drop 1) 4).2.1.toNat + 1)) ((l.drop ((lenF (l.drop 1) 4).2.1.toNat + 5)).take (lenF (l.drop 1) 4).1.toNat)) then (0, [], 0, 13)
    else (l.getD 0 0, (l.drop ((lenF (l.drop 1) 4).2.1.toNat + 5)).take (lenF (l.drop 1) 4).1.toNat, (lenF (l.drop 1) 4).2.1 + 5 + (lenF (l.drop 1) 4).1, 0) := rfl
  rw [hF] at h ⊢
  clear hF
  generalize lenF (l.drop 1) 4 = t at hb h ⊢
  by_cases h0 : l.length = 0
  · rw [if_pos h0] at h; cases h
  rw [if_neg h0] at h ⊢
  by_cases h1 : t.2.2 ≠ 0
  · rw [if_pos h1] at h; exact absurd h h1
  rw [if_neg h1] at h ⊢
  obtain ⟨b1, b2, b3, b4⟩ := hb.2.2 (by simpa using h1)
  by_cases h2 : (l.drop (t.2.1.toNat + 1)).take 4 ≠ le4 (sumsF (l.take (t.2.1.toNat + 1)) ((l.drop (t.2.1.toNat + 5)).take t.1.toNat))
  · rw [if_pos h2] at h; cases h
  rw [if_neg h2]
  simp only [List.length_take, List.length_drop]
  omega
theorem readF_len : ∀ (k : Nat) (b ahead : List Int) (es : List En), Rng b → readF k b ahead = some es → es.length ≤ b.length
  | _, [], _, es, _, h => by
    have : es = [] := by
      rename_i k _
      cases k <;> (unfold readF at h; cases h; rfl)
    subst this
    simp
  | 0, _ :: _, _, es, _, h => by cases h
  | k + 1, y :: b, ahead, es, hr, h => by
    unfold readF at h
    rcases he : entryF (y :: b) ahead with _ | ⟨x, r⟩
    · rw [he] at h; cases h
    · rw [he] at h
      simp only [Option.map_eq_some_iff] at h
      obtain ⟨es', h1, rfl⟩ := h
      have h2 := readF_len k r x.1 es' (entryF_rest hr he) h1
      have h3 := (entryF_lt hr he).1
      simp only [List.length_cons] at h3 ⊢
      omega
theorem framR_bd {l : List Int} {es : List En} (hr : Rng l) (h : framR l = some es) : (takeFrameF l).2.2.2 = 0 ∧ (takeFrameF l).2.2.1 = (framN l : Int) ∧ es.length + 5 ≤ framN l ∧ framN l ≤ l.length := by
  unfold framR at h
  by_cases h0 : (takeFrameF l).2.2.2 = 0
  · rw [if_pos h0] at h
    obtain ⟨h1, h2, h3⟩ := frame_bd hr h0
    have hrb : Rng (takeFrameF l).2.1 := by
      intro y hy
      have e : (takeFrameF l).2.1 = (l.drop ((lenF (l.drop 1) 4).2.1.toNat + 5)).take (lenF (l.drop 1) 4).1.toNat ∨ (takeFrameF l).2.1 = [] := by
        unfold takeFrameF
        repeat (first | (split; skip) | simp)
      rcases e with e | e
      · rw [e] at hy
        exact hr y (List.mem_of_mem_drop (List.mem_of_mem_take hy))
      · rw [e] at hy; cases hy
    have h4 := readF_len _ _ _ _ hrb h
    exact ⟨h0, h1, by omega, h3⟩
  · rw [if_neg h0] at h; cases h
/-- what is read while Open reads -/
structure OpJ (b : List Int) (bs : List Blk) (at_ k : Nat) : Prop where
  red : blocksF b.length b 0 = (blocksF k b at_).map fun p => (bs ++ p.1, p.2)
  fuel : b.length ≤ k + at_
  le : at_ ≤ b.length
  cnt : (allB bs).length ≤ at_
  num : bs.length ≤ at_
theorem OpJ.start (b : List Int) : OpJ b [] 0 b.length := ⟨by simp, by omega, by omega, by simp [allB], by simp⟩
theorem OpJ.stop {b : List Int} {bs : List Blk} {at_ k : Nat} (h : OpJ b bs at_ k) (h0 : b[at_]? ≠ some 68) : blocksF b.length b 0 = some (bs, at_) := by
  rw [h.red]
  cases k <;> (unfold blocksF; rw [if_neg h0]; simp)
theorem OpJ.bad {b : List Int} {bs : List Blk} {at_ k : Nat} (h : OpJ b bs at_ k) (h0 : b[at_]? = some 68) (h1 : framR (b.drop at_) = none ∨ framR (b.drop at_) = some []) : blocksF b.length b 0 = none := by
  rw [h.red]
  cases k with
  | zero => unfold blocksF; rw [if_pos h0]; rfl
  | succ k => unfold blocksF; rw [if_pos h0]; rcases h1 with h1 | h1 <;> (rw [h1]; rfl)
theorem OpJ.step {b : List Int} (hr : Rng b) {bs : List Blk} {at_ k : Nat} {x : En} {l : List En} (h : OpJ b bs at_ k) (h0 : b[at_]? = some 68) (h1 : framR (b.drop at_) = some (x :: l)) :
    OpJ b (bs ++ [(at_, at_ + framN (b.drop at_), x :: l)]) (at_ + framN (b.drop at_)) (k - 1) := by
  have hlt := (List.getElem?_eq_some_iff.1 h0).1
  obtain ⟨-, -, q1, q2⟩ := framR_bd (hr.drop at_) h1
  rw [List.length_drop] at q2
  have hf := h.fuel
  have hc := h.cnt
  have hn := h.num
  obtain ⟨k, rfl⟩ : ∃ k', k = k' + 1 := ⟨k - 1, by omega⟩
  refine ⟨?_, by omega, by omega, ?_, by rw [List.length_append, List.length_singleton]; omega⟩
  · rw [h.red]
    conv => lhs; rw [show blocksF (k + 1) b at_ = (blocksF k b (at_ + framN (b.drop at_))).map fun p => ((at_, at_ + framN (b.drop at_), x :: l) :: p.1, p.2) from by
      conv => lhs; unfold blocksF
      rw [if_pos h0, h1]]
    rw [Option.map_map, Nat.add_sub_cancel]
    congr 1
    funext p
    simp
  · unfold allB at hc ⊢
    rw [List.flatMap_append, List.length_append, List.flatMap_cons, List.flatMap_nil, List.append_nil]
    simp only at q1 ⊢
    omega
/-- a block with its first and its last key as values -/
abbrev BV : Type := Blk × Value × Value
def keyA (l : List En) : List Int := match l.head? with
  | some x => x.1
  | none => []
def keyZ (l : List En) : List Int := match l.getLast? with
  | some x => x.1
  | none => []
def c5 (r : BV) : List Value := [.int .i64 r.1.1, .int .i64 r.1.2.1, .int .i64 r.1.2.2.length, r.2.1, r.2.2]
theorem c5_len (r : BV) : (c5 r).length = 5 := rfl
def GoodB (w : World) (base : Nat) (r : BV) : Prop := OwnS w base 5 r.2.1 (keyA r.1.2.2) ∧ OwnS w base 5 r.2.2 (keyZ r.1.2.2)
theorem GoodB.chg {S : Nat → Prop} {w w1 : World} {base : Nat} {r : BV} (h : GoodB w base r) (k : Chg S w w1) (hS : ∀ b cur, w.heap[b]? = some (.cells cur 5 (0, 0)) → ¬ S b) : GoodB w1 base r :=
  ⟨k.ownS h.1 (fun b hb => by obtain ⟨c, hc⟩ := h.1.typed b hb; exact hS b c hc), k.ownS h.2 (fun b hb => by obtain ⟨c, hc⟩ := h.2.typed b hb; exact hS b c hc)⟩
theorem infoBk : (Try.prog.info? 78).map (fun i => (i.zero, i.size, i.bytes)) = some (some (.agg #[.int .i64 0, .int .i64 0, .int .i64 0, .slice none 0 0, .slice none 0 0]), 5, 72) := by kernel_rfl
/-- the table while Open reads: its box, its row of blocks; all the entries -/
structure OpI (base : Nat) (W : World) (tb : Nat) (bv blv fv av : Value) (cnt rd : Int) (b fil : List Int) (rows : List BV) (all : List En) : Prop where
  box : W.heap[tb]? = some (.cells #[bv, blv, fv, .int .i64 cnt, .int .i64 rd] 74 (0, 0))
  bw : base ≤ tb
  ob : OwnS W base 5 bv b
  of : OwnS W base 5 fv fil
  ol : W.ownsRow base 78 5 blv rows.length (rows.flatMap c5)
  gb : ∀ r ∈ rows, GoodB W base r
  oa : OwnEs W base av all
section
variable {base tb : Nat} {W W' : World} {bv blv fv av v : Value} {b fil : List Int} {cnt rd : Int} {rows : List BV} {all : List En}
theorem OpI.lt (h : OpI base W tb bv blv fv av cnt rd b fil rows all) : tb < W.heap.size := (Array.getElem?_eq_some_iff.1 h.box).1
theorem OpI.c1 (h : OpI base W tb bv blv fv av cnt rd b fil rows all) : W.cell? ⟨tb, 1, none⟩ = some blv := by rw [cell_of_row _ _ _ _ _ _ h.box]; rfl
theorem OpI.fz (h : OpI base W tb bv blv fv av cnt rd b fil rows all) (i : Nat) : W.frozen? ⟨tb, i, none⟩ = false := frozen_of_row _ _ _ _ _ h.box
theorem OpI.chg {S : Nat → Prop} (h : OpI base W tb bv blv fv av cnt rd b fil rows all) (k : Chg S W W') (hS : ∀ b cur t, W.heap[b]? = some (.cells cur t (0, 0)) → (t = 5 ∨ t = 46 ∨ t = 78 ∨ t = 74) → ¬ S b) : OpI base W' tb bv blv fv av cnt rd b fil rows all := by
  refine ⟨(k.block tb h.lt (hS tb _ _ h.box (.inr (.inr (.inr rfl))))).trans h.box, h.bw, k.ownS h.ob (fun b hb => ?_), k.ownS h.of (fun b hb => ?_), k.own h.ol (fun b hb => ?_), fun r hr => (h.gb r hr).chg k (fun b c hb => hS b _ _ hb (.inl rfl)), h.oa.chg k (fun b c t hb ht => hS b _ _ hb (ht.elim .inl (fun e => .inr (.inl e))))⟩
  · obtain ⟨c, hc⟩ := h.ob.typed b hb; exact hS b _ _ hc (.inl rfl)
  · obtain ⟨c, hc⟩ := h.of.typed b hb; exact hS b _ _ hc (.inl rfl)
  · obtain ⟨-, -, c, hc⟩ := own_typed h.ol b hb; exact hS b _ _ hc (.inr (.inr (.inl rfl)))
theorem OpI.below (h : OpI base W tb bv blv fv av cnt rd b fil rows all) (hb : Below W.heap.size W W') : OpI base W' tb bv blv fv av cnt rd b fil rows all :=
  h.chg (S := fun b => ¬ b < W.heap.size) (Chg.of_below hb (fun b h1 h2 => by omega)) (fun b cur t h1 _ h2 => h2 (Array.getElem?_eq_some_iff.1 h1).1)
/-- the row of blocks grows; the box takes it -/
theorem OpI.setL (h : OpI base W tb bv blv fv av cnt rd b fil rows all) {r : BV} (hg : GoodB W base r) {v : Value} (o : W'.ownsRow base 78 5 v (rows.length + 1) (rows.flatMap c5 ++ c5 r)) (c : Chg (fun b => blv.ownBlock = some b) W W') :
    OpI base (W'.setCell ⟨tb, 1, none⟩ v) tb bv v fv av cnt rd b fil (rows ++ [r]) all := by
  have hty : ∀ b cur t, W.heap[b]? = some (.cells cur t (0, 0)) → t ≠ 78 → ¬ blv.ownBlock = some b := fun b cur t hb ht e => by
    obtain ⟨-, -, c2, hc⟩ := own_typed h.ol b e
    exact ht (types_apart hb hc)
  have hx : W'.heap[tb]? = some (.cells #[bv, blv, fv, .int .i64 cnt, .int .i64 rd] 74 (0, 0)) := (c.block tb h.lt (hty tb _ _ h.box (by decide))).trans h.box
  have h8 : ∀ {u : Value} {l : List Int}, OwnS W base 5 u l → OwnS (W'.setCell ⟨tb, 1, none⟩ v) base 5 u l := fun {u l} hu => by
    have h1 : OwnS W' base 5 u l := c.ownS hu (fun b hb => by obtain ⟨c2, hc⟩ := hu.typed b hb; exact hty b _ _ hc (by decide))
    exact ownS_set h1 (p := ⟨tb, 1, none⟩) (fun b hb e => by
      obtain ⟨c2, hc⟩ := h1.typed b hb
      rw [e] at hc
      exact absurd (types_apart hc hx) (by decide)) _
  refine ⟨heap_setCell_same _ _ _ _ _ _ hx, h.bw, h8 h.ob, h8 h.of, ?_, fun s hs => ?_, ?_⟩
  · rw [List.length_append, List.flatMap_append, List.flatMap_cons, List.flatMap_nil, List.append_nil]
    exact own_set_other o (fun e => by
      obtain ⟨-, -, c2, hc⟩ := own_typed o tb e
      exact absurd (types_apart hc hx) (by decide)) _
  · rcases List.mem_append.1 hs with hs | hs
    · exact ⟨h8 (h.gb s hs).1, h8 (h.gb s hs).2⟩
    · rw [List.mem_singleton] at hs
      subst hs
      exact ⟨h8 hg.1, h8 hg.2⟩
  · have h1 : OwnEs W' base av all := h.oa.chg c (fun b cur t hb ht => hty b cur t hb (by rcases ht with rfl | rfl <;> decide))
    exact h1.chg (S := fun b => b = tb) ((Chg.refl (fun b => b = tb) W').set (p := ⟨tb, 1, none⟩) (fun _ => rfl) _) (fun b cur t hb ht e => by
      subst e
      have := types_apart hb hx
      rcases ht with rfl | rfl <;> exact absurd this (by decide))
/-- all the entries grow -/
theorem OpI.setA (h : OpI base W tb bv blv fv av cnt rd b fil rows all) {all' : List En} {v : Value} (o : OwnEs W' base v all') (c : Chg (fun b => av.ownBlock = some b) W W') :
    OpI base W' tb bv blv fv v cnt rd b fil rows all' := by
  obtain ⟨rs, -, ho, -⟩ := h.oa
  have hty : ∀ b cur t, W.heap[b]? = some (.cells cur t (0, 0)) → t ≠ 46 → ¬ av.ownBlock = some b := fun b cur t hb ht e => by
    obtain ⟨-, -, c2, hc⟩ := own_typed ho b e
    exact ht (types_apart hb hc)
  refine ⟨(c.block tb h.lt (hty tb _ _ h.box (by decide))).trans h.box, h.bw, c.ownS h.ob (fun b hb => ?_), c.ownS h.of (fun b hb => ?_), c.own h.ol (fun b hb => ?_), fun r hr => (h.gb r hr).chg c (fun b c hb => hty b _ _ hb (by decide)), o⟩
  · obtain ⟨c, hc⟩ := h.ob.typed b hb; exact hty b _ _ hc (by decide)
  · obtain ⟨c, hc⟩ := h.of.typed b hb; exact hty b _ _ hc (by decide)
  · obtain ⟨-, -, c, hc⟩ := own_typed h.ol b hb; exact hty b _ _ hc (by decide)
/-- a cell of the box that tells no row is set -/
theorem OpI.setB (h : OpI base W tb bv blv fv av cnt rd b fil rows all) (i : Nat) (v : Value) {fv' : Value} {cnt' rd' : Int} {fil' : List Int}
    (hc : (#[bv, blv, fv, .int .i64 cnt, .int .i64 rd] : Array Value).setIfInBounds i v = #[bv, blv, fv', .int .i64 cnt', .int .i64 rd']) (hf : OwnS W base 5 fv' fil') :
    OpI base (W.setCell ⟨tb, i, none⟩ v) tb bv blv fv' av cnt' rd' b fil' rows all := by
  have k : Chg (fun b => b = tb) W (W.setCell ⟨tb, i, none⟩ v) := (Chg.refl (fun b => b = tb) W).set (p := ⟨tb, i, none⟩) (fun _ => rfl) _
  have hty : ∀ b cur t, W.heap[b]? = some (.cells cur t (0, 0)) → t ≠ 74 → ¬ b = tb := fun b cur t hb ht e => by
    subst e
    exact ht (types_apart hb h.box)
  refine ⟨by rw [← hc]; exact heap_setCell_same _ _ _ _ _ _ h.box, h.bw, k.ownS h.ob (fun b hb => ?_), k.ownS hf (fun b hb => ?_), k.own h.ol (fun b hb => ?_), fun r hr => (h.gb r hr).chg k (fun b c hb => hty b _ _ hb (by decide)), h.oa.chg k (fun b c t hb ht => hty b _ _ hb (by rcases ht with rfl | rfl <;> decide))⟩
  · obtain ⟨c, hc⟩ := h.ob.typed b hb; exact hty b _ _ hc (by decide)
  · obtain ⟨c, hc⟩ := hf.typed b hb; exact hty b _ _ hc (by decide)
  · obtain ⟨-, -, c, hc⟩ := own_typed h.ol b hb; exact hty b _ _ hc (by decide)
end
end Ss
end Go.Proofs.Ytmojbamloanleaa
