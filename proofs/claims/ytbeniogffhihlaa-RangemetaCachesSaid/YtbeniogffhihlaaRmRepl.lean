/- rangemeta: slices.Replace of one range by two. -/
import Derived.Test.YtbeniogffhihlaaRmTab
import Derived.Test.YtbeniogffhihlaaRowK
set_option linter.unusedVariables false
set_option linter.unusedSimpArgs false
namespace Go.Proofs.Ytbeniogffhihlaa
open Go.RowKit
namespace Rm
def ReplP (base n i : Nat) (v : Value) (xs news : List Value) (w : World) (e : Ending) (w' : World) : Prop :=
  ∃ v', e = .returned v' ∧ w'.ownsRow base 39 4 v' (n + 1) (xs.take (i * 4) ++ news ++ xs.drop ((i + 1) * 4)) ∧ w.grownBy w' v.ownBlock ∧ (v'.ownBlock = v.ownBlock ∨ ∃ b, v'.ownBlock = some b ∧ w.heap.size ≤ b)
theorem infoRg : (Try.prog.info? 39).map (fun i => (i.zero, i.size, i.bytes)) = some (some (.agg #[.int .i64 0, .slice none 0 0, .slice none 0 0, .int .i64 0]), 4, 64) := by kernel_rfl
set_option maxRecDepth 100000 in
set_option maxHeartbeats 2000000 in
theorem replaceEnd_any (base g i n cap h : Nat) (xs news : List Value) (w : World) (hown : w.ownsRow base 39 4 (.slice (some ⟨g, 0, none⟩) n cap) n xs) (hn : i + 1 = n) (hnn : n ≤ 1000)
    (hnl : news.length = 8) (hnews : ∀ j u, news[j]? = some u → w.cell? ⟨h, 0 + j, none⟩ = some u) (h1 : ∀ u ∈ news, u.oneCell' = true) (hbase : base ≤ w.heap.size) :
    Calls Try.prog 47 #[.slice (some ⟨g, 0, none⟩) n cap, .int .i64 i, .int .i64 n, .slice (some ⟨h, 0, none⟩) 2 2] w (ReplP base n i (.slice (some ⟨g, 0, none⟩) n cap) xs news w) := by
  obtain ⟨i0, hi0, hz0, hz1, hz2⟩ := info_parts infoRg
  have HI := Lib.hid hi0; have HZ0 := Lib.hid hz0; have HZ1 := Lib.hid hz1; have HZ2 := Lib.hid hz2
  clear hi0 hz0 hz1 hz2
  have HO := Lib.hid hown
  have HN := Lib.hid hnews
  have HL := Lib.hid hnl
  have H1 := Lib.hid h1
  obtain ⟨-, -, -, c1, c2, -, -⟩ := own_row hown
  unfold maxLen at c2
  have HX := Lib.hid hown.1
  clear hown hnews hnl h1
  have q1 : ((i : Int) == (n : Int)) = false := beq_eq_false_iff_ne.2 (by omega)
  have q2 : i ≤ n := by omega
  have HNN := Lib.hid hn
  have hn3 : i + 2 ≤ 1001 := by omega
  have hn4 : ¬ ((i + 2 : Nat) : Int) < n := by omega
  have hn5 : i < n := by omega
  clear hn
  go_enter Try.func47, Try.ntmps47
  go_wp2_with (at_builtin; refine wpList_append_own_at (w := w) rfl (.tmp 32) (.tmp 33) _ rfl base 39 i0 _ 4 64 Try.underlying29 HI.out HZ0.out HZ1.out HZ2.out rfl (by decide) (.slice (some ⟨g, 0, none⟩) i cap) i (xs.take (i * 4)) rfl (own_prefix HO.out (by omega)) ⟨h, 0, none⟩ 2 2 news rfl (by rw [HL.out]) (fun j u hj => by rw [plain_add']; exact HN.out j u hj) H1.out (by simp only [maxLen]; omega) (by omega) hbase ?_; intro v2 w2 hown2 hb2 _ hk2; obtain ⟨ao2, cap2, rfl, -, -, -, -⟩ := own_form hown2; have HO2 := Lib.hid hown2; have HB2 := Lib.hid hb2; have HK2 := Lib.hid hk2; clear hown2 hb2 hk2)
  go_ret
  refine ⟨_, rfl, ?_, HB2.out, ?_⟩
  · rw [List.drop_eq_nil_of_le (by rw [HX.out, HNN.out]; exact Nat.le_refl _), List.append_nil, ← HNN.out]
    exact HO2.out
  · rcases HK2.out with h | h
    · exact .inl h
    · exact .inr ⟨_, h, Nat.le_refl _⟩
set_option maxRecDepth 100000 in
set_option maxHeartbeats 4000000 in
theorem replaceGrow_any (base g i j m n cap h : Nat) (xs news : List Value) (w : World) (hown : w.ownsRow base 39 4 (.slice (some ⟨g, 0, none⟩) n cap) n xs) (hj : j = i + 1) (hn : n = j + m) (hm : 0 < m) (hroom : cap < n + 1) (hnn : n ≤ 1000)
    (hnl : news.length = 8) (hnews : ∀ j u, news[j]? = some u → w.cell? ⟨h, 0 + j, none⟩ = some u) (hh : h < w.heap.size) (hx1 : ∀ u ∈ xs, u.oneCell' = true) (h1 : ∀ u ∈ news, u.oneCell' = true) (hbase : base ≤ w.heap.size) :
    Calls Try.prog 47 #[.slice (some ⟨g, 0, none⟩) n cap, .int .i64 i, .int .i64 j, .slice (some ⟨h, 0, none⟩) 2 2] w (ReplP base n i (.slice (some ⟨g, 0, none⟩) n cap) xs news w) := by
  obtain ⟨i0, hi0, hz0, hz1, hz2⟩ := info_parts infoRg
  have HI := Lib.hid hi0; have HZ0 := Lib.hid hz0; have HZ1 := Lib.hid hz1; have HZ2 := Lib.hid hz2
  clear hi0 hz0 hz1 hz2
  have HO := Lib.hid hown
  have HN := Lib.hid hnews
  have HL := Lib.hid hnl
  have H1 := Lib.hid h1
  have HX1 := Lib.hid hx1
  obtain ⟨-, -, -, c1, c2, -, -⟩ := own_row hown
  unfold maxLen at c2
  have HX := Lib.hid hown.1
  clear hown hnews hnl h1 hx1
  have q1 : ((i : Int) == (j : Int)) = false := beq_eq_false_iff_ne.2 (by omega)
  have q2 : ((j : Int) == (n : Int)) = false := beq_eq_false_iff_ne.2 (by omega)
  have q3 : i ≤ j := by omega
  have q4 : j ≤ n := by omega
  have q5 : i ≤ n := by omega
  have q6 : i < n := by omega
  have q7 : j < n := by omega
  have HJ := Lib.hid hj
  have HNN := Lib.hid hn
  have s0 := IntWalk.i64_in ((i : Int) + 2) (by omega)
  have s1 := IntWalk.i64_in ((i : Int) + 2 + ((n - j : Nat) : Int)) (by omega)
  have t1 : (i : Int) + 2 + ((n - j : Nat) : Int) = ((n + 1 : Nat) : Int) := by omega
  have HT1 := Lib.hid t1
  clear hn hj
  go_enter Try.func47, Try.ntmps47
  go_wp2_with fail
  go_quiet (fail)
  clear s0 s1 t1
  have r1 : ((cap : Int) < (n : Int) + 1) := by omega
  have r2 := IntWalk.i64_in ((n : Int) + 1 - (i : Int)) (by omega)
  go_wp2_with (first
    | at_builtin; refine wpList_append_zeros (w := w.drewN nq) rfl (.tmp 63) (.tmp 66) _ _ rfl i0 _ 64 .i64 .i64 Try.underlying29 Try.underlying3 HI.out HZ0.out HZ1.out HZ2.out rfl (by decide) (g := g) (n := i) (cap := cap) (xs := xs.take (i * 4)) rfl (n + 1 - i) (congrArg (Value.int .i64) (by omega)) (by omega) (by omega) (by omega) (by simp only [maxLen]; omega) (own_drewN (own_prefix HO.out q5) nq) ?_; intro cap2 zs w2 hz hc hcm hown2 hb2 hs2; have e2 : i + (n + 1 - i) = n + 1 := (by omega); rw [e2] at hown2 hc; rw [e2]; have HO2 := Lib.hid hown2; have HB2 := Lib.hid hb2; have HS2 := Lib.hid hs2; have HZ := Lib.hid hz; have hlz := own_lt hown2; clear e2 hown2 hb2 hs2 hz
    | (with_reducible refine at_dst 72 rfl ?_); refine wpList_copy_cells (w := w2) rfl (.tmp 70) (.tmp 71) _ _ rfl i0 Try.underlying29 HI.out HZ1.out i 2 (n + 1 - i) (cap2 - i) 2 (i * 4) ⟨h, 0, none⟩ rfl rfl rfl (by omega) (by omega) HO2.out news (by rw [HL.out]) (fun j u hj => by rw [plain_add']; exact (gb_cell' HB2.out hh).trans (HN.out j u hj)) H1.out ?_; intro w3 hown3 hb3 hs3; have HO3 := Lib.hid hown3; have HB3 := Lib.hid hb3; have HS3 := Lib.hid hs3; clear hown3 hb3 hs3)
  have HO' := Lib.hid (own_kept (own_kept (own_drewN HO.out nq) HB2.out (.inr (fun e => by cases e)) : w2.ownsRow _ _ _ _ _ _) HB3.out (.inr (fun e => by have h1 := (own_lt HO.out).2; have h2 : g = w.heap.size := Option.some.inj (show some g = some w.heap.size from e); omega)))
  have u1 := IntWalk.i64_in ((i : Int) + 2) (by omega)
  have u2 : ((i : Int) + 2).toNat = i + 2 := by omega
  have u3 : (0 : Int) ≤ (i : Int) + 2 := by omega
  have u4 : i + 2 < cap2 := by have := HJ.out; omega
  have u5 : ¬ cap2 = i + 2 := by omega
  have u6 : ¬ cap = j := by omega
  have u7 : i + 2 ≤ n + 1 := by have := HJ.out; omega
  have u9 : i + 1 ≤ n := by omega
  have v1 : (i : Int) + 2 ≤ (n : Int) + 1 := by omega
  have v2 : (i : Int) + 2 ≤ ((n + 1 : Nat) : Int) := by omega
  go_region_held3 (fun _ => True) (trivial) ((refine step_of_list rfl ?_; refine wpList_copy_cells (w := w3.drew) rfl (.tmp 78) (.tmp 81) _ _ rfl i0 Try.underlying29 HI.out HZ1.out (i + 2) (n - j) _ _ _ _ ⟨g, j * 4, none⟩ rfl rfl rfl (by have := HJ.out; omega) (by have := HJ.out; omega) HO3.out (xs.drop (j * 4)) (by rw [List.length_drop, HX.out]; have := HNN.out; omega) (fun k u hk => by rw [plain_add']; exact own_cell' HO'.out (by rw [← List.getElem?_drop]; exact hk)) (fun u hu => HX1.out u (List.mem_of_mem_drop hu)) ?_; intro w4 hown4 hb4 hs4; refine list_done ?_; have HO4 := Lib.hid hown4; have HB4 := Lib.hid hb4; have HS4 := Lib.hid hs4; clear hown4 hb4 hs4))
  go_wp2_with fail
  go_ret
  have hJ := HJ.out
  have hN := HNN.out
  have hX := HX.out
  refine ⟨_, rfl, ?_, ?_, .inr ⟨_, rfl, Nat.le_refl _⟩⟩
  · have h4 := own_mono HO4.out (show base ≤ _ from hbase)
    rw [list_splice2 (q := 8) (d := (n - j) * 4) (by rw [List.length_take, hX]; omega) HL.out (by rw [List.length_drop, hX]; omega) (by rw [HZ.out]; omega) (by omega) (by omega), hJ] at h4
    exact h4
  · exact gb_fresh (gb_drew (gb_fresh (gb_fresh (gb_drewN (gb_refl w _) nq) HB2.out (fun b e => by cases e)) HB3.out (fun b e => by cases e; exact Nat.le_refl _))) HB4.out (fun b e => by cases e; exact Nat.le_refl _)
set_option maxRecDepth 100000 in
set_option maxHeartbeats 4000000 in
theorem replaceRoom_any (base g i j m n cap h : Nat) (xs news : List Value) (fr : Nat × Nat) (w : World) (hown : w.ownsRow base 39 4 (.slice (some ⟨g, 0, none⟩) n cap) n xs) (hj : j = i + 1) (hn : n = j + m) (hm : 0 < m) (hroom : n + 1 ≤ cap) (hnn : n ≤ 1000)
    (hnl : news.length = 8) (hhb : w.heap[h]? = some (.cells news.toArray 39 fr)) (hgh : g ≠ h) (hx1 : ∀ u ∈ xs, u.oneCell' = true) (h1 : ∀ u ∈ news, u.oneCell' = true) :
    Calls Try.prog 47 #[.slice (some ⟨g, 0, none⟩) n cap, .int .i64 i, .int .i64 j, .slice (some ⟨h, 0, none⟩) 2 2] w (ReplP base n i (.slice (some ⟨g, 0, none⟩) n cap) xs news w) := by
  obtain ⟨i0, hi0, hz0, hz1, hz2⟩ := info_parts infoRg
  have HI := Lib.hid hi0; have HZ0 := Lib.hid hz0; have HZ1 := Lib.hid hz1; have HZ2 := Lib.hid hz2
  clear hi0 hz0 hz1 hz2
  have HO := Lib.hid hown
  have HL := Lib.hid hnl
  have H1 := Lib.hid h1
  have HX1 := Lib.hid hx1
  have HGH := Lib.hid hgh
  have HN : Hid (∀ j u, news[j]? = some u → w.cell? ⟨h, 0 + j, none⟩ = some u) := Lib.hid fun j u hu => by
    rw [cell_of_row w h (0 + j) _ _ _ hhb, Nat.zero_add]
    simpa using hu
  have HHH := Lib.hid (Array.getElem?_eq_some_iff.1 hhb).1
  obtain ⟨cur, -, hcur, c1, c2, hcs, -⟩ := own_row hown
  unfold maxLen at c2
  have HX := Lib.hid hown.1
  have hov := fun (nq la : Nat) => Lib.run_overlaps_apart (P := Try.prog) (w.drewN nq) 29 4 39 Try.underlying29 4 (fun w => by rw [run_sizeOf_info HI.out, HZ1.out]) ⟨g, (i + 2) * 4, none⟩ ⟨h, 0, none⟩ la (cap - (i + 2)) 2 2 hgh 39 39 cur.size 8
    (show w.shape? g = _ by simp [World.shape?, hcur]) (show w.shape? h = _ by simp [World.shape?, hhb, HL.out]) (by decide) (show w.frozen? ⟨g, (i + 2) * 4, none⟩ = false by simp [World.frozen?, hcur]) (show w.frozen? ⟨g, cur.size, none⟩ = false by simp [World.frozen?, hcur])
  have HOV := Lib.hid hov
  clear hown hnl h1 hx1 hhb hgh hcur hcs hov
  have q1 : ((i : Int) == (j : Int)) = false := beq_eq_false_iff_ne.2 (by omega)
  have q2 : ((j : Int) == (n : Int)) = false := beq_eq_false_iff_ne.2 (by omega)
  have q3 : i ≤ j := by omega
  have q4 : j ≤ n := by omega
  have q5 : i ≤ n := by omega
  have q6 : i < n := by omega
  have q7 : j < n := by omega
  have HJ := Lib.hid hj
  have HNN := Lib.hid hn
  have s0 := IntWalk.i64_in ((i : Int) + 2) (by omega)
  have s1 := IntWalk.i64_in ((i : Int) + 2 + ((n - j : Nat) : Int)) (by omega)
  have t1 : (i : Int) + 2 + ((n - j : Nat) : Int) = ((n + 1 : Nat) : Int) := by omega
  have HT1 := Lib.hid t1
  have z1 : ¬ (i + 2 ≤ j) := by omega
  clear hn hj
  go_enter Try.func47, Try.ntmps47
  go_wp2_with fail
  go_quiet (fail)
  clear s0 s1 t1
  have r1 : ¬ ((cap : Int) < (n : Int) + 1) := by omega
  have r3 : ((n : Int) + 1).toNat = n + 1 := by omega
  have r4 : (0 : Int) ≤ (n : Int) + 1 := by omega
  have u1 := IntWalk.i64_in ((i : Int) + 2) (by omega)
  have u2 : ((i : Int) + 2).toNat = i + 2 := by omega
  have u3 : (0 : Int) ≤ (i : Int) + 2 := by omega
  have u7 : i + 2 ≤ n + 1 := by have := HJ.out; omega
  have u9 : i + 1 ≤ n := by omega
  have v1 : (i : Int) + 2 ≤ (n : Int) + 1 := by omega
  have v2 : (i : Int) + 2 ≤ ((n + 1 : Nat) : Int) := by omega
  have z2 : ¬ ((i : Int) + 2 ≤ (j : Int)) := by omega
  have u4 : i + 2 < cap := by have := HJ.out; omega
  have u5 : ¬ cap = i + 2 := by omega
  have u6 : ¬ cap = j := by omega
  have u8 : ¬ cap = i := by omega
  go_wp2_with fail
  rw [run_callFunc_extern Try.func75 (by kernel_rfl) (by kernel_rfl) (by kernel_rfl) (e := Extern.SlicesOverlaps.overlaps #[29, 29] #[4]) (by kernel_rfl), HOV.out]
  simp only [Result.andThen]
  rw [Oper.upon_value]
  go_wp2_with fail
  obtain ⟨ys, hyl, hst⟩ := own_stretch HO.out (m := 1) hroom
  have HST := Lib.hid hst
  have HYL := Lib.hid hyl
  clear hst hyl
  go_region_held3 (fun _ => True) (trivial) ((refine step_of_list rfl ?_; refine wpList_copy_cells (w := (w.drewN nq).drew) rfl (.tmp 126) (.tmp 129) _ _ rfl i0 Try.underlying29 HI.out HZ1.out (i + 2) (n - j) _ _ _ _ ⟨g, j * 4, none⟩ rfl rfl rfl (by have := HJ.out; omega) (by have := HJ.out; omega) HST.out (xs.drop (j * 4)) (by rw [List.length_drop, HX.out]; have := HNN.out; omega) (fun k u hk => by rw [plain_add']; exact own_cell' HO.out (by rw [← List.getElem?_drop]; exact hk)) (fun u hu => HX1.out u (List.mem_of_mem_drop hu)) ?_; intro w4 hown4 hb4 hs4; refine list_done ?_; have HO4 := Lib.hid hown4; have HB4 := Lib.hid hb4; have HS4 := Lib.hid hs4; clear hown4 hb4 hs4))
  go_wp2_with ((with_reducible refine at_dst 135 rfl ?_); refine wpList_copy_cells (w := w4) rfl (.tmp 133) (.tmp 134) _ _ rfl i0 Try.underlying29 HI.out HZ1.out i 2 _ _ _ _ ⟨h, 0, none⟩ rfl rfl rfl (by omega) (by omega) HO4.out news (by rw [HL.out]) (fun j u hj => by rw [plain_add']; exact (gb_cell HB4.out HHH.out (fun e => HGH.out e.symm)).trans (HN.out j u hj)) H1.out ?_; intro w5 hown5 hb5 hs5; have HO5 := Lib.hid hown5; have HB5 := Lib.hid hb5; have HS5 := Lib.hid hs5; clear hown5 hb5 hs5)
  go_ret
  have hJ := HJ.out
  have hN := HNN.out
  have hX := HX.out
  refine ⟨_, rfl, ?_, gb_trans (gb_trans (gb_drew (gb_drewN (gb_refl w _) nq)) HB4.out) HB5.out, .inl rfl⟩
  have h5 := HO5.out
  rw [list_splice3 (by omega) (by omega) (by rw [hX, HYL.out]; omega) (by rw [hX, HYL.out]; omega), hJ] at h5
  exact h5
/-- slices.Replace(s, i, i+1, two..) -/
theorem replace_any (base g i n cap h : Nat) (xs news : List Value) (fr : Nat × Nat) (w : World) (hown : w.ownsRow base 39 4 (.slice (some ⟨g, 0, none⟩) n cap) n xs) (hi : i < n) (hnn : n ≤ 1000)
    (hnl : news.length = 8) (hhb : w.heap[h]? = some (.cells news.toArray 39 fr)) (hgh : g ≠ h) (hx1 : ∀ u ∈ xs, u.oneCell' = true) (h1 : ∀ u ∈ news, u.oneCell' = true) (hbase : base ≤ w.heap.size) :
    Calls Try.prog 47 #[.slice (some ⟨g, 0, none⟩) n cap, .int .i64 i, .int .i64 ((i + 1 : Nat) : Int), .slice (some ⟨h, 0, none⟩) 2 2] w (ReplP base n i (.slice (some ⟨g, 0, none⟩) n cap) xs news w) := by
  have hn : ∀ j u, news[j]? = some u → w.cell? ⟨h, 0 + j, none⟩ = some u := fun j u hu => by
    rw [cell_of_row w h (0 + j) _ _ _ hhb, Nat.zero_add]
    simpa using hu
  rcases Nat.lt_or_ge (i + 1) n with hlt | hge
  · rcases Nat.lt_or_ge cap (n + 1) with hc | hc
    · exact replaceGrow_any base g i (i + 1) (n - (i + 1)) n cap h xs news w hown rfl (by omega) (by omega) hc hnn hnl hn (Array.getElem?_eq_some_iff.1 hhb).1 hx1 h1 hbase
    · exact replaceRoom_any base g i (i + 1) (n - (i + 1)) n cap h xs news fr w hown rfl (by omega) (by omega) hc hnn hnl hhb hgh hx1 h1
  · have e : i + 1 = n := by omega
    rw [show ((i + 1 : Nat) : Int) = (n : Int) by omega]
    exact replaceEnd_any base g i n cap h xs news w hown e hnn hnl hn h1 hbase
end Rm
end Go.Proofs.Ytbeniogffhihlaa
