/- rangemeta: slices.DeleteFunc of the ranges with an id. rangemeta: a cache forgets a range. -/
import Derived.Test.YtbeniogffhihlaaRmIns
import Derived.Test.YtbeniogffhihlaaRmGood
set_option linter.unusedVariables false
set_option linter.unusedSimpArgs false
namespace Go.Proofs.Ytbeniogffhihlaa
open Go.RowKit
section
variable {P : Program} {w : World} {base : Nat} {e : TypeId} {size : Nat} {g n cap : Nat} {xs : List Value} {ops : Array Oper} {rest : List Oper} {o : Oper} {a : Act} {Q : Exit → Act → World → Prop}
theorem own_setCell (h : w.ownsRow base e size (.slice (some ⟨g, 0, none⟩) n cap) n xs) {k : Nat} (_hk : k < n * size) (v : Value) :
    (w.setCell ⟨g, k, none⟩ v).ownsRow base e size (.slice (some ⟨g, 0, none⟩) n cap) n (xs.set k v) := by
  obtain ⟨cur, hg, hh, hnc, hm, hcs, ht⟩ := own_row h
  refine ⟨by rw [List.length_set]; exact h.1, .inr ⟨g, cap, cur.setIfInBounds k v, rfl, hg, heap_setCell_same w g k cur _ _ hh, hnc, hm, by simpa using hcs, ?_⟩⟩
  rw [Array.toList_setIfInBounds, List.take_set, ht]
/-- clear(s[k:]) of a row of the call's own -/
theorem run_clear (t ty : TypeId) (z : Value) (hu : P.underlying t = some (.slice e)) (hz : ∀ w, (zeroValue e).run P w = .ok z w)
    (hzs : z.cells.size = size) (hz1 : ∀ u ∈ z.cells.toList, u.oneCell' = true) (h0 : 0 < size) (k m c off : Nat) (hoff : off = k * size) (hm : m = n - k) (hk : k < n)
    (hown : w.ownsRow base e size (.slice (some ⟨g, 0, none⟩) n cap) n xs) :
    ∃ w', (Builtin.clear_ #[t] ty #[.slice (some ⟨g, off, none⟩) m c]).run P w = .ok (.tuple #[]) w' ∧ w'.ownsRow base e size (.slice (some ⟨g, 0, none⟩) k cap) k (xs.take (k * size)) ∧ w.grownBy w' (some g) := by
  obtain ⟨cur, hg, hh, hnc, hmx, hcs, ht⟩ := own_row hown
  have e2 : n * size ≤ cap * size := Nat.mul_le_mul_right _ hnc
  have e3 : k * size ≤ n * size := Nat.mul_le_mul_right _ (Nat.le_of_lt hk)
  have e4 : k * size + (n - k) * size = n * size := by rw [← Nat.add_mul]; congr 1; omega
  obtain ⟨zs, hzz⟩ : ∃ zs, (Builtin.zeroCells z.cells m).toList = zs := ⟨_, rfl⟩
  have hzl : zs.length = (n - k) * size := by rw [← hzz]; simp [Builtin.zeroCells, hzs, hm]
  have hz2 : ∀ u ∈ zs, u.oneCell' = true := fun u hu => by
    rw [← hzz] at hu
    simp only [Builtin.zeroCells, Array.toList_map, List.mem_map] at hu
    obtain ⟨i, -, rfl⟩ := hu
    have hlt : i % z.cells.size < z.cells.size := Nat.mod_lt _ (by omega)
    rw [getElem!_pos z.cells _ hlt]
    exact hz1 _ (by rw [← Array.getElem_toList]; exact List.getElem_mem _)
  have hst := run_storeCells_at (P := P) g (k * size) e zs 0 cur w hh (by omega) hz2
  have hcl : cur.toList.length = cap * size := by rw [Array.length_toList, hcs]
  obtain ⟨m', rfl⟩ : ∃ m', m = m' + 1 := ⟨m - 1, by omega⟩
  subst hoff
  refine ⟨w.setRow g (cur.toList.take (k * size + 0) ++ zs ++ cur.toList.drop (k * size + 0 + zs.length)).toArray, ?_, ⟨by rw [List.length_take, hown.1]; omega, .inr ⟨g, cap, _, rfl, hg, setRow_heap w g cur _ e (0, 0) hh, by omega, hmx, ?_, ?_⟩⟩, gb_setRow _⟩
  · simp only [Builtin.clear_, List.getElem?_toArray, List.getElem?_cons_zero, Sem.run_bind, Sem.run_pure, run_underlying hu, Result.andThen_ok, hz, hzz, hst]
  · simp only [List.size_toArray, List.length_append, List.length_take, List.length_drop, hcl, hzl]
    omega
  · simp only [Nat.add_zero]
    rw [List.append_assoc, List.take_append_of_le_length (by rw [List.length_take, hcl]; omega), List.take_take, Nat.min_self, ← ht, List.take_take, Nat.min_eq_left e3]
end
namespace Rm
theorem flat_set4 : ∀ (rs : List RV) (i : Nat) (r : RV), i < rs.length → ((((rs.flatMap cells4).set (i * 4) (.int .i64 r.1.1)).set (i * 4 + 1) r.2.1).set (i * 4 + 2) r.2.2).set (i * 4 + 3) (.int .i64 r.1.2.2.2) = (rs.set i r).flatMap cells4
  | [], _, _, h => by simp at h
  | x :: rs, 0, r, _ => by simp [List.flatMap_cons, cells4]
  | x :: rs, i + 1, r, h => by
    have ih := flat_set4 rs i r (by simpa using h)
    simp only [List.flatMap_cons, List.set_cons_succ]
    rw [← ih]
    have hl : (cells4 x).length = 4 := rfl
    have e : ∀ k, (i + 1) * 4 + k = (cells4 x).length + (i * 4 + k) := fun k => by rw [hl]; omega
    have e0 := e 0
    rw [Nat.add_zero, Nat.add_zero] at e0
    rw [e 1, e 2, e 3, e0]
    have hs : ∀ (l : List Value) (k : Nat) (v : Value), (cells4 x ++ l).set ((cells4 x).length + k) v = cells4 x ++ l.set k v := fun l k v => by
      rw [List.set_append_right _ _ (Nat.le_add_right _ _), Nat.add_sub_cancel_left]
    rw [hs, hs, hs, hs, Nat.add_zero]
set_option maxRecDepth 100000 in
set_option maxHeartbeats 1000000 in
theorem forgetC_any (fv tv : Value) (id gen n : Int) (f t : List Int) (nb : Nat) (w : World) (hf : IsB w fv f) (ht : IsB w tv t) (hc : w.cell? ⟨nb, 0, none⟩ = some (.int .i64 n)) (hnb : nb < w.heap.size) :
    Calls Try.prog 72 #[.agg #[.int .i64 id, fv, tv, .int .i64 gen], .pointer (some ⟨nb, 0, none⟩)] w (Ret (.bool (id == n)) w) := by
  obtain ⟨fo, fc, rfl, -, -, -⟩ := hf.form
  obtain ⟨to, tc, rfl, -, -, -⟩ := ht.form
  clear hf ht
  go_enter Try.func72, Try.ntmps72
  go_wp2_with fail
  go_ret
  exact ⟨rfl, bel_alloc (Below.refl _ w) _⟩
/-- what stands in the row when the elements up to j have been looked at -/
structure DelI (w : World) (base g cap : Nat) (n : Int) (rs : List RV) (i j : Nat) (wr : World) : Prop where
  ex : ∃ ys : List RV, ys.length = rs.length ∧ (ys.take i).map (·.1) = ((rs.take j).map (·.1)).filter (fun x => !(x.1 == n)) ∧ ys.drop j = rs.drop j ∧ wr.ownsRow base 39 4 (.slice (some ⟨g, 0, none⟩) rs.length cap) rs.length (ys.flatMap cells4) ∧ ∀ r ∈ ys, GoodV wr base r
  ij : i < j
  jn : j ≤ rs.length
  gr : w.grownBy wr (some g)
theorem set_oneOf {α : Type} {l : List α} {i : Nat} {x y : α} (h : y ∈ l.set i x) : y = x ∨ y ∈ l := by
  rcases List.mem_or_eq_of_mem_set h with h | h
  · exact .inr h
  · exact .inl h
theorem idxF_min {p : RangeD → Bool} {l : List RangeD} {k : Nat} (h : idxF p l = (k : Int)) : ∀ y ∈ l.take k, p y = false := by
  unfold idxF at h
  cases hf : l.findIdx? p with
  | none => rw [hf] at h; simp at h
  | some j =>
    rw [hf] at h
    obtain rfl : j = k := by simp at h; omega
    obtain ⟨hk, -, hb⟩ := List.findIdx?_eq_some_iff_getElem.1 hf
    intro y hy
    obtain ⟨i, hi, rfl⟩ := List.mem_take_iff_getElem.1 hy
    simpa using hb i (by omega)
theorem own_at {w : World} {base g n cap : Nat} {xs : List Value} (h : w.ownsRow base 39 4 (.slice (some ⟨g, 0, none⟩) n cap) n xs) {k : Nat} (hk : k < n * 4) : (∃ u, w.cell? ⟨g, k, none⟩ = some u) ∧ w.frozen? ⟨g, k, none⟩ = false := by
  obtain ⟨cur, -, hh, hnc, -, hcs, -⟩ := own_row h
  refine ⟨⟨cur[k]'(by omega), ?_⟩, frozen_of_row w g k _ _ hh⟩
  rw [cell_of_row w g k _ _ _ hh]
  exact Array.getElem?_eq_getElem _
theorem flat_take4 : ∀ (rs : List RV) (k : Nat), (rs.flatMap cells4).take (k * 4) = (rs.take k).flatMap cells4
  | [], k => by simp
  | x :: rs, 0 => by simp
  | x :: rs, k + 1 => by
    rw [List.take_succ_cons, List.flatMap_cons, List.flatMap_cons, ← flat_take4 rs k, List.take_append, show (cells4 x).length = 4 from rfl, show (k + 1) * 4 - 4 = k * 4 by omega, List.take_of_length_le (by rw [show (cells4 x).length = 4 from rfl]; omega)]
theorem zeroRg (w : World) : (zeroValue 39).run Try.prog w = .ok (.agg #[.int .i64 0, .slice none 0 0, .slice none 0 0, .int .i64 0]) w := by kernel_rfl
theorem drop_get {α : Type} {l m : List α} {j : Nat} (h : l.drop j = m.drop j) : l[j]? = m[j]? := by
  have := congrArg (fun l => l[0]?) h
  simpa using this
def DelP (base : Nat) (v : Value) (L : List RangeD) (w : World) (e : Ending) (w' : World) : Prop :=
  ∃ v', e = .returned v' ∧ OwnRgs w' base v' L ∧ w.grownBy w' v.ownBlock ∧ v'.ownBlock = v.ownBlock
set_option maxRecDepth 100000 in
set_option maxHeartbeats 4000000 in
theorem deleteFunc_any (base idb : Nat) (n : Int) (v : Value) (L : List RangeD) (w : World) (h : OwnRgs w base v L) (hid : w.cell? ⟨idb, 0, none⟩ = some (.int .i64 n)) (hne : v.ownBlock ≠ some idb) (hidb : idb < w.heap.size) (hn : L.length ≤ 1000) :
    Calls Try.prog 71 #[v, .func (.func 72) #[] #[.pointer (some ⟨idb, 0, none⟩)]] w (DelP base v (L.filter fun x => !(x.1 == n)) w) := by
  have hX := indexFunc_any 72 #[.pointer (some ⟨idb, 0, none⟩)] (fun x => x.1 == n) v L w h.isRgs (enters_of Try.func72 (by kernel_rfl) rfl)
    (fun w' x fv tv hb hf ht => forgetC_any fv tv x.1 x.2.2.2 n x.2.1 x.2.2.1 idb w' hf ht ((hb.cell (p := ⟨idb, 0, none⟩) hidb).trans hid) (Nat.lt_of_lt_of_le hidb hb.size))
  have HX := Lib.hid hX
  have H := Lib.hid h
  have HID := Lib.hid hid
  have HNE := Lib.hid hne
  clear hX hid hne
  rcases idxF_cases (fun x => x.1 == n) L with ⟨h1, h2⟩ | ⟨k, r, h1, h2, h3, h4⟩
  · rw [h1] at HX
    have hf : L.filter (fun x => !(x.1 == n)) = L := List.filter_eq_self.2 fun x hx => by rw [h2 x hx]; rfl
    have HF := Lib.hid hf
    obtain ⟨ao, cap, rfl, -, -, -⟩ := h.isRgs.form
    clear h h1 h2 hf
    go_enter Try.func71, Try.ntmps71
    go_wp2_with fail
    refine HX.out.mono ?_
    rintro e w1 ⟨rfl, hb⟩
    have HB := Lib.hid hb
    clear hb HX
    go_wp2_with fail
    go_ret
    refine ⟨_, rfl, by rw [HF.out]; exact H.out.below HB.out, gb_call (gb_refl w _) HB.out, rfl⟩
  · rw [h1] at HX
    obtain ⟨g, cap, rfl⟩ := h.slice (by rintro rfl; simp at h2)
    obtain ⟨rs, rfl, ho, hg⟩ := h
    rw [List.length_map] at h2 hn H HX
    rw [List.length_map]
    have ho' : w.ownsRow base 39 4 (.slice (some ⟨g, 0, none⟩) rs.length cap) rs.length (rs.flatMap cells4) := by have := ho; rwa [List.length_map] at this
    have hI0 : DelI w base g cap n rs k (k + 1) w := by
      refine ⟨⟨rs, rfl, ?_, rfl, ho', hg⟩, Nat.lt_succ_self k, h2, gb_refl w _⟩
      have hx : rs[k]? = some rs[k] := List.getElem?_eq_getElem h2
      have hm := idxF_min h1
      rw [take_snoc hx, List.map_append, List.filter_append]
      have e1 : (rs[k]).1 = r := by
        rw [List.getElem?_map, hx] at h3
        simpa using h3
      have e2 : ([rs[k]].map (·.1)).filter (fun x => !(x.1 == n)) = [] := by
        simp only [List.map_cons, List.map_nil, e1]
        rw [List.filter_cons, if_neg (by rw [h4]; simp), List.filter_nil]
      rw [e2, List.append_nil, List.filter_eq_self.2]
      intro x hx
      rw [hm x (by rwa [← List.map_take])]
      rfl
    have HI0 := Lib.hid hI0
    clear h1 h3 h4 ho ho' hg hI0 H
    go_enter Try.func71, Try.ntmps71
    go_wp2_with fail
    refine HX.out.mono ?_
    rintro e w1 ⟨rfl, hb⟩
    have HI1 : Hid (DelI w base g cap n rs k (k + 1) w1) := Lib.hid (by
      obtain ⟨ys, q1, q2, q3, q4, q5⟩ := HI0.out.ex
      exact ⟨⟨ys, q1, q2, q3, own_below q4 hb, fun r hr => (q5 r hr).chg (S := fun _ => False) (.of_ext hb) (fun _ _ _ h => h)⟩, HI0.out.ij, HI0.out.jn, gb_call HI0.out.gr hb⟩)
    clear hb HX HI0
    have hw0 := IntWalk.i64_in ((k : Int) + 1) (by omega)
    have hk1 : ((k : Int) == -1) = false := beq_eq_false_iff_ne.2 (by omega)
    go_wp2_with fail
    go_loopw [5, 6] (fun i j wr => ∃ a b : Nat, i = .int .i64 a ∧ j = .int .i64 b ∧ Hid (DelI w base g cap n rs a b wr)) (fun _ j _ => rs.length - (intOf j).toNat)
    case atStart => exact ⟨k, k + 1, rfl, by go_num, HI1⟩
    case round =>
      obtain ⟨a, b, rfl, rfl, hI⟩ := hrel
      have hij := hI.out.ij
      have hjn := hI.out.jn
      obtain ⟨ys, q1, q2, q3, q4, q5⟩ := hI.out.ex
      have HGR := Lib.hid hI.out.gr
      by_cases hlt : b < rs.length
      · obtain ⟨r, hr⟩ : ∃ r, rs[b]? = some r := ⟨_, List.getElem?_eq_getElem hlt⟩
        have hyb : ys[b]? = some r := (drop_get q3).trans hr
        obtain ⟨g1, g2, g3, g4⟩ := q5 r (List.mem_of_getElem? hyb)
        obtain ⟨⟨xi, xf, xt, xg⟩, fv, tv⟩ := r
        simp only at g1 g2 g3 g4
        have hc : ∀ j u, (cells4 ((xi, xf, xt, xg), fv, tv))[j]? = some u → wr.cell? ⟨g, b * 4 + j, none⟩ = some u := fun j u hu => own_cell' q4 (by rw [flat_get cells4_len ys b j _ hyb (by have := (List.getElem?_eq_some_iff.1 hu).1; rwa [cells4_len] at this)]; exact hu)
        have c0 : wr.cell? ⟨g, b * 4, none⟩ = some (.int .i64 xi) := hc 0 _ rfl
        have c1 : wr.cell? ⟨g, b * 4 + 1, none⟩ = some fv := hc 1 _ rfl
        have c2 : wr.cell? ⟨g, b * 4 + 2, none⟩ = some tv := hc 2 _ rfl
        have c3 : wr.cell? ⟨g, b * 4 + 3, none⟩ = some (.int .i64 xg) := hc 3 _ rfl
        obtain ⟨fo, fc, rfl, -, -, -, -⟩ := g1.form
        obtain ⟨to, tc, rfl, -, -, -, -⟩ := g2.form
        obtain ⟨W1, hW1⟩ : ∃ W1, wr.alloc (.cells #[.int .i64 xi, .slice fo xf.length fc, .slice to xt.length tc, .int .i64 xg] 39) = W1 := ⟨_, rfl⟩
        have hbW : Below wr.heap.size wr W1 := hW1 ▸ bel_alloc (.refl _ wr) _
        have hx1 : W1.heap[wr.heap.size]? = some (.cells #[.int .i64 xi, .slice fo xf.length fc, .slice to xt.length tc, .int .i64 xg] 39 (0, 0)) := by rw [← hW1]; exact heap_alloc_new wr _
        have e0 : W1.cell? ⟨wr.heap.size, 0, none⟩ = some (.int .i64 xi) := by rw [cell_of_row W1 _ 0 _ _ _ hx1]; rfl
        have e1 : W1.cell? ⟨wr.heap.size, 1, none⟩ = some (.slice fo xf.length fc) := by rw [cell_of_row W1 _ 1 _ _ _ hx1]; rfl
        have e2 : W1.cell? ⟨wr.heap.size, 2, none⟩ = some (.slice to xt.length tc) := by rw [cell_of_row W1 _ 2 _ _ _ hx1]; rfl
        have e3 : W1.cell? ⟨wr.heap.size, 3, none⟩ = some (.int .i64 xg) := by rw [cell_of_row W1 _ 3 _ _ _ hx1]; rfl
        have hidw : W1.cell? ⟨idb, 0, none⟩ = some (.int .i64 n) := (hbW.cell (p := ⟨idb, 0, none⟩) (Nat.lt_of_lt_of_le hidb HGR.out.size)).trans ((gb_cell HGR.out hidb (fun e => HNE.out (by rw [e]; rfl))).trans HID.out)
        have HC := Lib.hid (forgetC_any (.slice fo xf.length fc) (.slice to xt.length tc) xi xg n xf xt idb W1 (g1.isB.below hbW) (g2.isB.below hbW) hidw (Nat.lt_of_lt_of_le (Nat.lt_of_lt_of_le hidb HGR.out.size) hbW.size))
        have hl0 : (b : Int) < rs.length := by omega
        have hl1 : 0 ≤ (b : Int) := by omega
        have hw1 := IntWalk.i64_in ((b : Int) + 1) (by omega)
        have hw2 := IntWalk.i64_in ((a : Int) + 1) (by omega)
        have Q1 := Lib.hid q1; have Q2 := Lib.hid q2; have Q3 := Lib.hid q3; have Q4 := Lib.hid (own_below q4 hbW); have Q5 : Hid (∀ r ∈ ys, GoodV W1 base r) := Lib.hid fun r hr => (q5 r hr).chg (S := fun _ => False) (.of_ext hbW) (fun _ _ _ h => h)
        have HG1 := Lib.hid (gb_call HGR.out hbW)
        have HR := Lib.hid hr; have HYB := Lib.hid hyb; have HX1 := Lib.hid hx1
        clear q1 q2 q3 q4 q5 g1 g2 hc hbW hx1 hidw hr hyb HGR hI
        go_wp2_with fail
        refine HC.out.mono ?_
        rintro e w2 ⟨rfl, hb⟩
        have R4 := Lib.hid (own_below Q4.out hb); have R5 : Hid (∀ r ∈ ys, GoodV w2 base r) := Lib.hid fun r hr => (Q5.out r hr).chg (S := fun _ => False) (.of_ext hb) (fun _ _ _ h => h)
        have HG2 := Lib.hid (gb_call HG1.out hb)
        have HX2 := Lib.hid ((hb.block _ (Array.getElem?_eq_some_iff.1 HX1.out).1).trans HX1.out)
        clear hb HC Q4 Q5 HG1 HX1 c0 c1 c2 c3 e0 e1 e2 e3
        cases hq : (xi == n) with
        | true =>
          have HI2 : Hid (DelI w base g cap n rs a (b + 1) w2) := Lib.hid ⟨⟨ys, Q1.out, by
            rw [Q2.out, take_snoc HR.out, List.map_append, List.filter_append]
            have : ([((xi, xf, xt, xg), Value.slice fo xf.length fc, Value.slice to xt.length tc)].map (·.1)).filter (fun x => !(x.1 == n)) = [] := by
              simp only [List.map_cons, List.map_nil]
              rw [List.filter_cons, if_neg (by rw [hq]; simp), List.filter_nil]
            rw [this, List.append_nil], by rw [← List.drop_drop, Q3.out, List.drop_drop], R4.out, R5.out⟩, by omega, by omega, HG2.out⟩
          clear R4 R5 HG2 Q1 Q2 Q3 HX2
          go_wp2_with fail
          go_roundw
          case rel => exact ⟨a, b + 1, rfl, by go_num, HI2⟩
          case measure => simp [intOf]; omega
        | false =>
          have ha : a < rs.length := by omega
          have e0 : w2.cell? ⟨wr.heap.size, 0, none⟩ = some (.int .i64 xi) := by rw [cell_of_row w2 _ 0 _ _ _ HX2.out]; rfl
          have e1 : w2.cell? ⟨wr.heap.size, 1, none⟩ = some (.slice fo xf.length fc) := by rw [cell_of_row w2 _ 1 _ _ _ HX2.out]; rfl
          have e2 : w2.cell? ⟨wr.heap.size, 2, none⟩ = some (.slice to xt.length tc) := by rw [cell_of_row w2 _ 2 _ _ _ HX2.out]; rfl
          have e3 : w2.cell? ⟨wr.heap.size, 3, none⟩ = some (.int .i64 xg) := by rw [cell_of_row w2 _ 3 _ _ _ HX2.out]; rfl
          have o0 := own_setCell R4.out (k := a * 4) (by omega) (.int .i64 xi)
          obtain ⟨⟨d0, D0⟩, F0⟩ := own_at R4.out (k := a * 4) (by omega)
          obtain ⟨X0, hX0⟩ : ∃ X, w2.setCell ⟨g, a * 4, none⟩ (.int .i64 xi) = X := ⟨_, rfl⟩
          have g0 := gb_set (gb_refl w2 _) (p := ⟨g, a * 4, none⟩) (.inl rfl) (.int .i64 xi)
          rw [hX0] at o0 g0
          have o1 := own_setCell o0 (k := a * 4 + 1) (by omega) (.slice fo xf.length fc)
          obtain ⟨⟨d1, D1⟩, F1⟩ := own_at o0 (k := a * 4 + 1) (by omega)
          obtain ⟨X1, hX1⟩ : ∃ X, X0.setCell ⟨g, a * 4 + 1, none⟩ (.slice fo xf.length fc) = X := ⟨_, rfl⟩
          have g1 := gb_set (gb_refl X0 _) (p := ⟨g, a * 4 + 1, none⟩) (.inl rfl) (.slice fo xf.length fc)
          rw [hX1] at o1 g1
          have o2 := own_setCell o1 (k := a * 4 + 2) (by omega) (.slice to xt.length tc)
          obtain ⟨⟨d2, D2⟩, F2⟩ := own_at o1 (k := a * 4 + 2) (by omega)
          obtain ⟨X2, hX2⟩ : ∃ X, X1.setCell ⟨g, a * 4 + 2, none⟩ (.slice to xt.length tc) = X := ⟨_, rfl⟩
          have g2 := gb_set (gb_refl X1 _) (p := ⟨g, a * 4 + 2, none⟩) (.inl rfl) (.slice to xt.length tc)
          rw [hX2] at o2 g2
          have o3 := own_setCell o2 (k := a * 4 + 3) (by omega) (.int .i64 xg)
          obtain ⟨⟨d3, D3⟩, F3⟩ := own_at o2 (k := a * 4 + 3) (by omega)
          obtain ⟨X3, hX3⟩ : ∃ X, X2.setCell ⟨g, a * 4 + 3, none⟩ (.int .i64 xg) = X := ⟨_, rfl⟩
          have g3 := gb_set (gb_refl X2 _) (p := ⟨g, a * 4 + 3, none⟩) (.inl rfl) (.int .i64 xg)
          rw [hX3] at o3 g3
          have hfs := flat_set4 ys a ((xi, xf, xt, xg), .slice fo xf.length fc, .slice to xt.length tc) (by have := Q1.out; omega)
          simp only at hfs
          rw [hfs] at o3
          have hgb := gb_trans (gb_trans (gb_trans g0 g1) g2) g3
          have HI2 : Hid (DelI w base g cap n rs (a + 1) (b + 1) X3) := Lib.hid ⟨⟨_, by rw [List.length_set]; exact Q1.out, by
            have hat : (ys.set a ((xi, xf, xt, xg), .slice fo xf.length fc, .slice to xt.length tc))[a]? = some ((xi, xf, xt, xg), .slice fo xf.length fc, .slice to xt.length tc) := by
              rw [List.getElem?_set]; simp; have := Q1.out; omega
            rw [take_snoc hat, List.map_append, List.take_set_of_le (Nat.le_refl _), Q2.out, take_snoc HR.out, List.map_append, List.filter_append]
            congr 1
            simp only [List.map_cons, List.map_nil]
            rw [List.filter_cons, if_pos (by rw [hq]; rfl), List.filter_nil], by
            rw [List.drop_set_of_lt (by omega), ← List.drop_drop, Q3.out, List.drop_drop], o3, fun r hr => by
            have hold : ∀ r ∈ ys, GoodV X3 base r := fun r hr => (R5.out r hr).grown R4.out hgb
            rcases set_oneOf hr with rfl | hr
            · exact hold _ (List.mem_of_getElem? HYB.out)
            · exact hold r hr⟩, by omega, by omega, gb_trans HG2.out hgb⟩
          clear o0 o1 o2 o3 g0 g1 g2 g3 hfs hgb R4 R5 HG2 Q1 Q2 Q3 HX2 HR HYB
          go_wp2_with fail
          go_roundw
          case rel => exact ⟨a + 1, b + 1, by go_num, by go_num, HI2⟩
          case measure => simp [intOf]; omega
      · obtain rfl : b = rs.length := by omega
        have Q1 := Lib.hid q1; have Q2 := Lib.hid q2; have Q4 := Lib.hid q4; have Q5 := Lib.hid q5
        have ha : a < rs.length := by omega
        have ha' : a ≤ rs.length := by omega
        have ha2 : (a : Int) ≤ rs.length := by omega
        have ha0 : (0 : Int) ≤ a := by omega
        obtain ⟨-, -, -, hcap, -⟩ := own_row q4
        have u5 : ¬ cap = a := by omega
        clear q1 q2 q3 q4 q5 hI
        obtain ⟨W3, hr3, ho3, hb3⟩ := run_clear (P := Try.prog) 29 0 _ Try.underlying29 zeroRg rfl (by intro u hu; simp [Value.cells] at hu; rcases hu with rfl | rfl | rfl | rfl <;> rfl) (by decide) a (rs.length - a) (cap - a) (a * 4) rfl rfl ha Q4.out
        have HR3 := Lib.hid hr3; have HO3 := Lib.hid ho3; have HB3 := Lib.hid hb3
        clear hr3 ho3 hb3
        go_wp2_with fail
        rw [HR3.out]
        simp only [Result.andThen]
        rw [Oper.upon_value]
        go_wp2_with fail
        go_ret
        refine ⟨_, rfl, ⟨ys.take a, ?_, ?_, fun r hr => (Q5.out r (List.mem_of_mem_take hr)).grown Q4.out HB3.out⟩, gb_trans HGR.out HB3.out, rfl⟩
        · rw [Q2.out, List.take_length]
        · have this : W3.ownsRow base 39 4 (.slice (some ⟨g, 0, none⟩) a cap) a ((ys.flatMap cells4).take (a * 4)) := HO3.out
          rw [flat_take4] at this
          have hl : ((rs.map (·.1)).filter fun x => !(x.1 == n)).length = a := by
            have := congrArg List.length Q2.out
            rw [List.length_map, List.length_take, List.take_length] at this
            have := Q1.out
            omega
          rw [hl]
          exact this
end Rm
end Go.Proofs.Ytbeniogffhihlaa
namespace Go.Proofs.Ytbeniogffhihlaa
open Go.RowKit
namespace Rm
/-- a cache behind a call -/
def StoP (B cb : Nat) (v : Value) (b : Bool) (L' : List RangeD) (w : World) (e : Ending) (w' : World) : Prop :=
  e = .returned (.bool b) ∧ ∃ v', w'.heap[cb]? = some (.cells #[v'] 88 (0, 0)) ∧ OwnRgs w' B v' L' ∧ Chg (fun b => b = cb ∨ v.ownBlock = some b) w w' ∧ (v'.ownBlock = v.ownBlock ∨ ∃ b, v'.ownBlock = some b ∧ w.heap.size ≤ b)
theorem gb_block {w w' : World} {v : Value} (h : w.grownBy w' v.ownBlock) {b : Nat} (hb : b < w.heap.size) (hn : v.ownBlock ≠ some b) : w'.heap[b]? = w.heap[b]? := h.block b hb (fun e => hn e.symm)
set_option maxRecDepth 100000 in
set_option maxHeartbeats 4000000 in
theorem forget_any (B cb : Nat) (id : Int) (v : Value) (L : List RangeD) (w : World) (hcb : w.heap[cb]? = some (.cells #[v] 88 (0, 0))) (h : OwnRgs w B v L) (hn : L.length ≤ 1000) :
    Calls Try.prog 37 #[.pointer (some ⟨cb, 0, none⟩), .int .i64 id] w (StoP B cb v (decide ((L.filter fun x => !(x.1 == id)).length < L.length)) (L.filter fun x => !(x.1 == id)) w) := by
  have hlt := (Array.getElem?_eq_some_iff.1 hcb).1
  have hvt := h.typed
  have hvcb : v.ownBlock ≠ some cb := fun e => by
    obtain ⟨-, -, cur, hc⟩ := hvt cb e
    exact absurd (types_apart hc hcb) (by decide)
  obtain ⟨W0, hW0⟩ : ∃ W0, w.alloc (.cells #[.int .i64 id] 3) = W0 := ⟨_, rfl⟩
  have hb0 : Below w.heap.size w W0 := hW0 ▸ bel_alloc (.refl _ w) _
  have hx0 : W0.heap[w.heap.size]? = some (.cells #[.int .i64 id] 3 (0, 0)) := by rw [← hW0]; exact heap_alloc_new w _
  have hcb0 := (hb0.block cb hlt).trans hcb
  have c0 : W0.cell? ⟨cb, 0, none⟩ = some v := by rw [cell_of_row W0 cb 0 _ _ _ hcb0]; rfl
  have HC := Lib.hid (deleteFunc_any B w.heap.size id v L W0 (h.below hb0) (by rw [cell_of_row W0 _ 0 _ _ _ hx0]; rfl) (fun e => by have := (hvt _ e).2.1; omega) (Array.getElem?_eq_some_iff.1 hx0).1 hn)
  obtain ⟨L2, hL2⟩ : ∃ L2, L.filter (fun x => !(x.1 == id)) = L2 := ⟨_, rfl⟩
  rw [hL2] at HC ⊢
  have hl2 : L2.length ≤ L.length := by rw [← hL2]; exact List.length_filter_le _ _
  obtain ⟨ao, cap, rfl, -, -, -⟩ := h.isRgs.form
  have HB0 := Lib.hid hb0; have HCB0 := Lib.hid hcb0; have HV := Lib.hid hvcb; have HLT := Lib.hid hlt; have HCB := Lib.hid hcb; have HH := Lib.hid h
  clear hb0 hcb0 hvcb hlt hcb h hvt hx0 hL2
  go_enter Try.func37, Try.ntmps37
  go_wp2_with fail
  refine HC.out.mono ?_
  rintro e w2 ⟨v2, rfl, ho2, hg2, hk2⟩
  have hcb2 : w2.heap[cb]? = some (.cells #[.slice ao L.length cap] 88 (0, 0)) := (gb_block hg2 (Array.getElem?_eq_some_iff.1 HCB0.out).1 HV.out).trans HCB0.out
  obtain ⟨ao2, cap2, rfl, -, -, -⟩ := ho2.isRgs.form
  have c2 : w2.cell? ⟨cb, 0, none⟩ = some (.slice ao L.length cap) := by rw [cell_of_row w2 cb 0 _ _ _ hcb2]; rfl
  have f2 := frozen_of_row w2 cb 0 _ _ hcb2
  obtain ⟨W3, hW3⟩ : ∃ W3, w2.setCell ⟨cb, 0, none⟩ (.slice ao2 L2.length cap2) = W3 := ⟨_, rfl⟩
  have hcb3 : W3.heap[cb]? = some (.cells #[.slice ao2 L2.length cap2] 88 (0, 0)) := by rw [← hW3]; exact heap_setCell_same w2 cb 0 _ _ _ hcb2
  have c3 : W3.cell? ⟨cb, 0, none⟩ = some (.slice ao2 L2.length cap2) := by rw [cell_of_row W3 cb 0 _ _ _ hcb3]; rfl
  have hchg : Chg (fun b => b = cb) w2 W3 := hW3 ▸ (Chg.refl (fun b => b = cb) w2).set (p := ⟨cb, 0, none⟩) (fun _ => rfl) _
  have HO3 : Hid (OwnRgs W3 B (.slice ao2 L2.length cap2) L2) := Lib.hid (ho2.chg hchg (fun b hb e => by subst e; exact HV.out (hk2 ▸ hb)) (fun b cur hb e => by subst e; exact absurd (types_apart hb hcb2) (by decide)))
  have HCH : Hid (Chg (fun b => b = cb ∨ (Value.slice ao L.length cap).ownBlock = some b) w W3) := Lib.hid (((Chg.of_ext HB0.out).trans (.of_grown hg2 (fun b _ hb => .inr hb))).trans (hchg.mono fun b _ hb => .inl hb))
  have HCB3 := Lib.hid hcb3; have HK := Lib.hid hk2
  clear hcb2 hcb3 hchg ho2 hg2 hk2 HC
  have hd : decide ((L2.length : Int) < L.length) = decide (L2.length < L.length) := decide_eq_decide.2 (by omega)
  go_wp2_with fail
  go_ret
  refine ⟨?_, _, HCB3.out, HO3.out, HCH.out, .inl HK.out⟩
  first | exact congrArg (fun b => Ending.returned (.bool b)) hd | rfl | (simp [hd])
end Rm
end Go.Proofs.Ytbeniogffhihlaa
