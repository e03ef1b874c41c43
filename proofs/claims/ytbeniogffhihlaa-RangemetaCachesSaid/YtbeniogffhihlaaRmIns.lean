/- rangemeta: slices.Insert of one range. -/
import Derived.Test.YtbeniogffhihlaaRmRepl
import Derived.Test.YtbeniogffhihlaaOwnL
set_option linter.unusedVariables false
set_option linter.unusedSimpArgs false
namespace Go.Proofs.Ytbeniogffhihlaa
open Go.RowKit
section
variable {P : Program} {w : World} {base : Nat} {e : TypeId} {size : Nat} {g n cap : Nat} {xs : List Value} {ops : Array Oper} {rest : List Oper} {o : Oper} {a : Act} {Q : Exit → Act → World → Prop}
/-- copy of what there is room for into a row of the call's own, from element k on -/
theorem run_copy_min (dT sT ty : TypeId) (i : TypeInfo) (hu : P.underlying dT = some (.slice e)) (hi : P.info? e = some i) (hsize : i.size = size) (k m ms dl dc sc off : Nat) (ad : Addr) (hoff : off = k * size) (hmin : Nat.min ms dl = m) (hkm : k + m ≤ n)
    (hown : w.ownsRow base e size (.slice (some ⟨g, 0, none⟩) n cap) n xs) (news : List Value) (hl : news.length = m * size) (hnews : ∀ j u, news[j]? = some u → w.cell? (ad.add j) = some u) (h1 : ∀ u ∈ news, u.oneCell' = true) :
    ∃ w', (Builtin.copy_ #[dT, sT] ty #[.slice (some ⟨g, off, none⟩) dl dc, .slice (some ad) ms sc]).run P w = .ok (goInt m) w' ∧ w'.ownsRow base e size (.slice (some ⟨g, 0, none⟩) n cap) n (xs.take (k * size) ++ news ++ xs.drop ((k + m) * size)) ∧ w.grownBy w' (some g) ∧ w'.heap.size = w.heap.size := by
  obtain ⟨cur, hg, hh, hnc, hmx, hcs, ht⟩ := own_row hown
  subst hoff
  have hxl := hown.1
  have e1 : k * size + m * size = (k + m) * size := (Nat.add_mul _ _ _).symm
  have e2 : (k + m) * size ≤ n * size := Nat.mul_le_mul_right _ hkm
  have e3 : n * size ≤ cap * size := Nat.mul_le_mul_right _ hnc
  have hfc : (Builtin.firstCells size m (.slice (some ad) ms sc)).run P w = .ok news.toArray w := run_firstCells_some (P := P) (w := w) size m ad ms sc news hl hnews
  have hst := run_storeCells_at P g (k * size) e news 0 cur w hh (by omega) h1
  have hcl : cur.toList.length = cap * size := by rw [Array.length_toList, hcs]
  refine ⟨_, ?_, ?_, gb_setRow (g := g) (cur.toList.take (k * size + 0) ++ news ++ cur.toList.drop (k * size + 0 + news.length)).toArray, by simp [World.setRow]⟩
  · simp only [Builtin.copy_, List.getElem?_toArray, List.getElem?_cons_zero, List.getElem?_cons_succ, Sem.run_bind, Sem.run_pure, run_underlying hu, run_sizeOf_info hi, Result.andThen_ok, Builtin.lenOf, hmin, hsize, hfc, hst]
  · refine ⟨?_, .inr ⟨g, cap, _, rfl, hg, setRow_heap w g cur _ e (0, 0) hh, hnc, hmx, ?_, ?_⟩⟩
    · simp only [List.length_append, List.length_take, List.length_drop, hxl, hl]
      omega
    · simp only [List.size_toArray, List.length_append, List.length_take, List.length_drop, hcl, hl]
      omega
    · simp only [Nat.add_zero, hl]
      rw [e1, ← ht, List.take_take, Nat.min_eq_left (by omega), List.append_assoc, List.append_assoc, List.take_append, List.take_of_length_le (by rw [List.length_take]; omega)]
      congr 1
      rw [List.take_append, List.take_of_length_le (by rw [hl, List.length_take, hcl]; omega)]
      congr 1
      rw [List.drop_take]
      congr 1
      rw [List.length_take, hl, hcl]
      omega
theorem wpList_copy_min (hgd : o.guard = none) (d s : Operand) (dT sT : TypeId) (ho : o.op = .call { callee := .builtin .copy, args := #[d, s], argTypes := #[dT, sT] })
    (i : TypeInfo) (hu : P.underlying dT = some (.slice e)) (hi : P.info? e = some i) (hsize : i.size = size) (k m ms dl dc sc off : Nat) (ad : Addr) (hd : a.eval d = .slice (some ⟨g, off, none⟩) dl dc) (hs : a.eval s = .slice (some ad) ms sc) (hoff : off = k * size) (hmin : Nat.min ms dl = m) (hkm : k + m ≤ n)
    (hown : w.ownsRow base e size (.slice (some ⟨g, 0, none⟩) n cap) n xs) (news : List Value) (hl : news.length = m * size) (hnews : ∀ j u, news[j]? = some u → w.cell? (ad.add j) = some u) (h1 : ∀ u ∈ news, u.oneCell' = true)
    (h : ∀ w', w'.ownsRow base e size (.slice (some ⟨g, 0, none⟩) n cap) n (xs.take (k * size) ++ news ++ xs.drop ((k + m) * size)) → w.grownBy w' (some g) → w'.heap.size = w.heap.size → wpList P ops Q rest (a.put o.dst (goInt m)) w') : wpList P ops Q (o :: rest) a w := by
  obtain ⟨w', hr, h2, h3, h4⟩ := run_copy_min dT sT o.type i hu hi hsize k m ms dl dc sc off ad hoff hmin hkm hown news hl hnews h1
  refine wpList_plain hgd fun K hK => ?_
  unfold Oper.wp execOp
  simp only [ho, resolve, invoke, builtin, Sem.run_bind, Sem.run_pure, Result.andThen_ok, List.map_toArray, List.map_cons, List.map_nil, hd, hs, hr]
  exact hK _ _ (h w' h2 h3 h4)
end
namespace Rm
def InsP (base n i : Nat) (v : Value) (xs news : List Value) (w : World) (e : Ending) (w' : World) : Prop :=
  ∃ v', e = .returned v' ∧ w'.ownsRow base 39 4 v' (n + 1) (xs.take (i * 4) ++ news ++ xs.drop (i * 4)) ∧ w.grownBy w' v.ownBlock ∧ (v'.ownBlock = v.ownBlock ∨ ∃ b, v'.ownBlock = some b ∧ w.heap.size ≤ b)
set_option maxRecDepth 100000 in
set_option maxHeartbeats 2000000 in
theorem insEnd_any (base n h : Nat) (v : Value) (xs news : List Value) (w : World) (hown : w.ownsRow base 39 4 v n xs) (hnn : n ≤ 1000)
    (hnl : news.length = 4) (hnews : ∀ j u, news[j]? = some u → w.cell? ⟨h, 0 + j, none⟩ = some u) (h1 : ∀ u ∈ news, u.oneCell' = true) (hbase : base ≤ w.heap.size) :
    Calls Try.prog 60 #[v, .int .i64 n, .slice (some ⟨h, 0, none⟩) 1 1] w (InsP base n n v xs news w) := by
  obtain ⟨i0, hi0, hz0, hz1, hz2⟩ := info_parts infoRg
  have HI := Lib.hid hi0; have HZ0 := Lib.hid hz0; have HZ1 := Lib.hid hz1; have HZ2 := Lib.hid hz2
  clear hi0 hz0 hz1 hz2
  have HO := Lib.hid hown
  have HN := Lib.hid hnews
  have HL := Lib.hid hnl
  have H1 := Lib.hid h1
  have HX := Lib.hid hown.1
  obtain ⟨ao, cap, rfl, c1, c2, c3, -⟩ := own_form hown
  clear hown hnews hnl h1
  go_enter Try.func60, Try.ntmps60
  go_wp2_with (at_builtin; refine wpList_append_own_at (w := w) rfl (.tmp 23) (.tmp 24) _ rfl base 39 i0 _ 4 64 Try.underlying29 HI.out HZ0.out HZ1.out HZ2.out rfl (by decide) (.slice ao n cap) n xs rfl HO.out ⟨h, 0, none⟩ 1 1 news rfl (by rw [HL.out]) (fun j u hj => by rw [plain_add']; exact HN.out j u hj) H1.out (by simp only [maxLen]; omega) (by omega) hbase ?_; intro v2 w2 hown2 hb2 _ hk2; obtain ⟨ao2, cap2, rfl, -, -, -, -⟩ := own_form hown2; have HO2 := Lib.hid hown2; have HB2 := Lib.hid hb2; have HK2 := Lib.hid hk2; clear hown2 hb2 hk2)
  all_goals
    have hob : ∀ c d, (Value.slice ao n c).ownBlock = (Value.slice ao n d).ownBlock := fun c d => by cases ao <;> rfl
    go_ret
    refine ⟨_, rfl, ?_, by rw [hob _ cap]; exact HB2.out, ?_⟩
    · have hX := HX.out
      rw [List.drop_eq_nil_of_le (by omega), List.append_nil, List.take_of_length_le (by omega)]
      exact HO2.out
    · rcases HK2.out with h | h
      · exact .inl (h.trans (hob _ _))
      · exact .inr ⟨_, h, Nat.le_refl _⟩
set_option maxRecDepth 100000 in
set_option maxHeartbeats 4000000 in
theorem insGrow_any (base g i m n cap h : Nat) (xs news : List Value) (w : World) (hown : w.ownsRow base 39 4 (.slice (some ⟨g, 0, none⟩) n cap) n xs) (hn : n = i + m) (hm : 0 < m) (hroom : cap < n + 1) (hnn : n ≤ 1000)
    (hnl : news.length = 4) (hnews : ∀ j u, news[j]? = some u → w.cell? ⟨h, 0 + j, none⟩ = some u) (hh : h < w.heap.size) (hx1 : ∀ u ∈ xs, u.oneCell' = true) (h1 : ∀ u ∈ news, u.oneCell' = true) (hbase : base ≤ w.heap.size) :
    Calls Try.prog 60 #[.slice (some ⟨g, 0, none⟩) n cap, .int .i64 i, .slice (some ⟨h, 0, none⟩) 1 1] w (InsP base n i (.slice (some ⟨g, 0, none⟩) n cap) xs news w) := by
  obtain ⟨i0, hi0, hz0, hz1, hz2⟩ := info_parts infoRg
  have HI := Lib.hid hi0; have HZ0 := Lib.hid hz0; have HZ1 := Lib.hid hz1; have HZ2 := Lib.hid hz2
  clear hi0 hz0 hz1 hz2
  have HO := Lib.hid hown
  have HN := Lib.hid hnews
  have HL := Lib.hid hnl
  have H1 := Lib.hid h1
  have HX1 := Lib.hid hx1
  obtain ⟨-, -, -, c1, c2, -, -⟩ := own_row hown
  unfold maxLen at c2
  have HX := Lib.hid hown.1
  clear hown hnews hnl h1 hx1
  have q2 : ((i : Int) == (n : Int)) = false := beq_eq_false_iff_ne.2 (by omega)
  have q5 : i ≤ n := by omega
  have q6 : i < n := by omega
  have q7 : ¬ cap = i := by omega
  have HNN := Lib.hid hn
  have s0 := IntWalk.i64_in ((n : Int) + 1) (by omega)
  have r1 : ((cap : Int) < (n : Int) + 1) := by omega
  have r2 := IntWalk.i64_in ((n : Int) + 1 - (i : Int)) (by omega)
  have q8 : (i : Int) ≤ n := by omega
  have q9 : (0 : Int) ≤ i := by omega
  clear hn
  go_enter Try.func60, Try.ntmps60
  go_wp2_with (first
    | at_builtin; refine wpList_append_zeros (w := w) rfl (.tmp 34) (.tmp 39) _ _ rfl i0 _ 64 .i64 .i64 Try.underlying29 Try.underlying3 HI.out HZ0.out HZ1.out HZ2.out rfl (by decide) (g := g) (n := i) (cap := cap) (xs := xs.take (i * 4)) rfl (n + 1 - i) (congrArg (Value.int .i64) (by omega)) (by omega) (by omega) (by omega) (by simp only [maxLen]; omega) (own_prefix HO.out q5) ?_; intro cap2 zs w2 hz hc hcm hown2 hb2 hs2; have e2 : i + (n + 1 - i) = n + 1 := (by omega); rw [e2] at hown2 hc; rw [e2]; have HO2 := Lib.hid hown2; have HB2 := Lib.hid hb2; have HS2 := Lib.hid hs2; have HZ := Lib.hid hz; have hlz := own_lt hown2; clear e2 hown2 hb2 hs2 hz
    | (with_reducible refine at_dst 45 rfl ?_); refine wpList_copy_cells (w := w2) rfl (.tmp 43) (.tmp 44) _ _ rfl i0 Try.underlying29 HI.out HZ1.out i 1 (n + 1 - i) (cap2 - i) 1 (i * 4) ⟨h, 0, none⟩ rfl rfl rfl (by omega) (by omega) HO2.out news (by rw [HL.out]) (fun j u hj => by rw [plain_add']; exact (gb_cell' HB2.out hh).trans (HN.out j u hj)) H1.out ?_; intro w3 hown3 hb3 hs3; have HO3 := Lib.hid hown3; have HB3 := Lib.hid hb3; have HS3 := Lib.hid hs3; clear hown3 hb3 hs3)
  have HO' := Lib.hid (own_kept (own_kept HO.out HB2.out (.inr (fun e => by cases e)) : w2.ownsRow _ _ _ _ _ _) HB3.out (.inr (fun e => by have h1 := (own_lt HO.out).2; have h2 : g = w.heap.size := Option.some.inj (show some g = some w.heap.size from e); omega)))
  have u1 := IntWalk.i64_in ((i : Int) + 1) (by omega)
  have u2 : ((i : Int) + 1).toNat = i + 1 := by omega
  have u3 : (0 : Int) ≤ (i : Int) + 1 := by omega
  have u4 : i + 1 < cap2 := by omega
  have u5 : ¬ cap2 = i + 1 := by omega
  have u7 : i + 1 ≤ n + 1 := by omega
  have v1 : (i : Int) + 1 ≤ (n : Int) + 1 := by omega
  have v2 : (i : Int) + 1 ≤ ((n + 1 : Nat) : Int) := by omega
  go_region_held3 (fun _ => True) (trivial) ((refine step_of_list rfl ?_; refine wpList_copy_cells (w := w3.drew) rfl (.tmp 50) (.tmp 53) _ _ rfl i0 Try.underlying29 HI.out HZ1.out (i + 1) (n - i) _ _ _ _ ⟨g, i * 4, none⟩ rfl rfl rfl (by omega) (by omega) HO3.out (xs.drop (i * 4)) (by rw [List.length_drop, HX.out]; omega) (fun k u hk => by rw [plain_add']; exact own_cell' HO'.out (by rw [← List.getElem?_drop]; exact hk)) (fun u hu => HX1.out u (List.mem_of_mem_drop hu)) ?_; intro w4 hown4 hb4 hs4; refine list_done ?_; have HO4 := Lib.hid hown4; have HB4 := Lib.hid hb4; have HS4 := Lib.hid hs4; clear hown4 hb4 hs4))
  go_wp2_with fail
  go_ret
  have hX := HX.out
  refine ⟨_, rfl, ?_, ?_, .inr ⟨_, rfl, Nat.le_refl _⟩⟩
  · have h4 := own_mono HO4.out (show base ≤ _ from hbase)
    rw [list_splice2 (q := 4) (d := (n - i) * 4) (by rw [List.length_take, hX]; omega) HL.out (by rw [List.length_drop, hX]; omega) (by rw [HZ.out]; omega) (by omega) (by omega)] at h4
    exact h4
  · exact gb_fresh (gb_drew (gb_fresh (gb_fresh (gb_refl w _) HB2.out (fun b e => by cases e)) HB3.out (fun b e => by cases e; exact Nat.le_refl _))) HB4.out (fun b e => by cases e; exact Nat.le_refl _)
set_option maxRecDepth 100000 in
set_option maxHeartbeats 4000000 in
theorem insRoom_any (base g i m n cap h : Nat) (xs news : List Value) (w : World) (hown : w.ownsRow base 39 4 (.slice (some ⟨g, 0, none⟩) n cap) n xs) (hn : n = i + m) (hm : 0 < m) (hroom : n + 1 ≤ cap) (hnn : n ≤ 1000)
    (hnl : news.length = 4) (hhb : w.heap[h]? = some (.cells news.toArray 39 (0, 0))) (hgh : g ≠ h) (hx1 : ∀ u ∈ xs, u.oneCell' = true) (h1 : ∀ u ∈ news, u.oneCell' = true) :
    Calls Try.prog 60 #[.slice (some ⟨g, 0, none⟩) n cap, .int .i64 i, .slice (some ⟨h, 0, none⟩) 1 1] w (InsP base n i (.slice (some ⟨g, 0, none⟩) n cap) xs news w) := by
  obtain ⟨i0, hi0, hz0, hz1, hz2⟩ := info_parts infoRg
  have HI := Lib.hid hi0; have HZ0 := Lib.hid hz0; have HZ1 := Lib.hid hz1; have HZ2 := Lib.hid hz2
  clear hi0 hz0 hz1 hz2
  have HO := Lib.hid hown
  have HL := Lib.hid hnl
  have H1 := Lib.hid h1
  have HX1 := Lib.hid hx1
  have HGH := Lib.hid hgh
  have HN : Hid (∀ j u, news[j]? = some u → w.cell? ⟨h, 0 + j, none⟩ = some u) := Lib.hid fun j u hu => by
    rw [cell_of_row w h (0 + j) _ _ _ hhb, Nat.zero_add]
    simpa using hu
  have HHH := Lib.hid (Array.getElem?_eq_some_iff.1 hhb).1
  obtain ⟨cur, -, hcur, c1, c2, hcs, -⟩ := own_row hown
  unfold maxLen at c2
  have HX := Lib.hid hown.1
  have hov := Lib.run_overlaps_apart (P := Try.prog) w 29 4 39 Try.underlying29 4 (fun w => by rw [run_sizeOf_info HI.out, HZ1.out]) ⟨h, 0, none⟩ ⟨g, (i + 1) * 4, none⟩ 1 1 (n - i) (cap - (i + 1)) (fun e => hgh e.symm) 39 39 4 cur.size
    (show w.shape? h = _ by simp [World.shape?, hhb, HL.out]) (show w.shape? g = _ by simp [World.shape?, hcur]) (by omega) (show w.frozen? ⟨h, 0, none⟩ = false by simp [World.frozen?, hhb]) (show w.frozen? ⟨h, 4, none⟩ = false by simp [World.frozen?, hhb])
  have HOV := Lib.hid hov
  clear hown hnl h1 hx1 hhb hgh hcur hcs hov
  have q2 : ((i : Int) == (n : Int)) = false := beq_eq_false_iff_ne.2 (by omega)
  have q5 : i ≤ n := by omega
  have q6 : i < n := by omega
  have q7 : ¬ cap = i := by omega
  have HNN := Lib.hid hn
  have s0 := IntWalk.i64_in ((n : Int) + 1) (by omega)
  have r1 : ¬ ((cap : Int) < (n : Int) + 1) := by omega
  have r3 : ((n : Int) + 1).toNat = n + 1 := by omega
  have r4 : (0 : Int) ≤ (n : Int) + 1 := by omega
  have q8 : (i : Int) ≤ n := by omega
  have q9 : (0 : Int) ≤ i := by omega
  have u1 := IntWalk.i64_in ((i : Int) + 1) (by omega)
  have u2 : ((i : Int) + 1).toNat = i + 1 := by omega
  have u3 : (0 : Int) ≤ (i : Int) + 1 := by omega
  have u4 : i + 1 < cap := by omega
  have u5 : ¬ cap = i + 1 := by omega
  have u7 : i + 1 ≤ n + 1 := by omega
  have v1 : (i : Int) + 1 ≤ (n : Int) + 1 := by omega
  have v2 : (i : Int) + 1 ≤ ((n + 1 : Nat) : Int) := by omega
  have v3 : (i : Int) ≤ (n : Int) + 1 := by omega
  have v4 : n + 1 - (i + 1) = n - i := by omega
  clear hn
  go_enter Try.func60, Try.ntmps60
  go_wp2_with fail
  rw [run_callFunc_extern Try.func75 (by kernel_rfl) (by kernel_rfl) (by kernel_rfl) (e := Extern.SlicesOverlaps.overlaps #[29, 29] #[4]) (by kernel_rfl), HOV.out]
  simp only [Result.andThen]
  rw [Oper.upon_value]
  go_wp2_with fail
  obtain ⟨ys, hyl, hst⟩ := own_stretch HO.out (m := 1) hroom
  have HST := Lib.hid hst
  have HYL := Lib.hid hyl
  clear hst hyl
  go_region_held3 (fun _ => True) (trivial) ((refine step_of_list rfl ?_; refine wpList_copy_min (w := w.drew) rfl (.tmp 73) (.tmp 76) _ _ rfl i0 Try.underlying29 HI.out HZ1.out (i + 1) (n - i) _ _ _ _ _ ⟨g, i * 4, none⟩ rfl rfl rfl (by simp only [Nat.min_def]; split <;> omega) (by omega) HST.out (xs.drop (i * 4)) (by rw [List.length_drop, HX.out]; omega) (fun k u hk => by rw [plain_add']; exact own_cell' HO.out (by rw [← List.getElem?_drop]; exact hk)) (fun u hu => HX1.out u (List.mem_of_mem_drop hu)) ?_; intro w4 hown4 hb4 hs4; refine list_done ?_; have HO4 := Lib.hid hown4; have HB4 := Lib.hid hb4; have HS4 := Lib.hid hs4; clear hown4 hb4 hs4))
  go_wp2_with ((with_reducible refine at_dst 82 rfl ?_); refine wpList_copy_cells (w := w4) rfl (.tmp 80) (.tmp 81) _ _ rfl i0 Try.underlying29 HI.out HZ1.out i 1 _ _ _ _ ⟨h, 0, none⟩ rfl rfl rfl (by omega) (by omega) HO4.out news (by rw [HL.out]) (fun j u hj => by rw [plain_add']; exact (gb_cell HB4.out HHH.out (fun e => HGH.out e.symm)).trans (HN.out j u hj)) H1.out ?_; intro w5 hown5 hb5 hs5; have HO5 := Lib.hid hown5; have HB5 := Lib.hid hb5; have HS5 := Lib.hid hs5; clear hown5 hb5 hs5)
  go_ret
  have hX := HX.out
  refine ⟨_, rfl, ?_, gb_trans (gb_trans (gb_drew (gb_refl w _)) HB4.out) HB5.out, .inl rfl⟩
  have h5 := HO5.out
  rw [list_splice3 (by omega) (by omega) (by rw [hX, HYL.out]; omega) (by rw [hX, HYL.out]; omega)] at h5
  exact h5
/-- slices.Insert(s, i, one) -/
theorem insert_any (base i n h : Nat) (v : Value) (xs news : List Value) (w : World) (hown : w.ownsRow base 39 4 v n xs) (hi : i ≤ n) (hnn : n ≤ 1000)
    (hnl : news.length = 4) (hhb : w.heap[h]? = some (.cells news.toArray 39 (0, 0))) (hgh : v.ownBlock ≠ some h) (hx1 : ∀ u ∈ xs, u.oneCell' = true) (h1 : ∀ u ∈ news, u.oneCell' = true) (hbase : base ≤ w.heap.size) :
    Calls Try.prog 60 #[v, .int .i64 i, .slice (some ⟨h, 0, none⟩) 1 1] w (InsP base n i v xs news w) := by
  have hn : ∀ j u, news[j]? = some u → w.cell? ⟨h, 0 + j, none⟩ = some u := fun j u hu => by
    rw [cell_of_row w h (0 + j) _ _ _ hhb, Nat.zero_add]
    simpa using hu
  rcases Nat.lt_or_ge i n with hlt | hge
  · obtain ⟨g, cap, rfl⟩ := own_nonzero hown (by omega)
    have hg : g ≠ h := fun e => hgh (by rw [e]; rfl)
    rcases Nat.lt_or_ge cap (n + 1) with hc | hc
    · exact insGrow_any base g i (n - i) n cap h xs news w hown (by omega) (by omega) hc hnn hnl hn (Array.getElem?_eq_some_iff.1 hhb).1 hx1 h1 hbase
    · exact insRoom_any base g i (n - i) n cap h xs news w hown (by omega) (by omega) hc hnn hnl hhb hg hx1 h1
  · obtain rfl : i = n := by omega
    exact insEnd_any base i h v xs news w hown hnn hnl hn h1 hbase
end Rm
end Go.Proofs.Ytbeniogffhihlaa
