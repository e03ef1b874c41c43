/- rangemeta: the document's Cut, SameParts. -/
import Derived.Test.YtbeniogffhihlaaRmRefS
set_option linter.unusedVariables false
set_option linter.unusedSimpArgs false
namespace Go.Proofs.Ytbeniogffhihlaa
open Go.RowKit
namespace Rm
set_option maxRecDepth 100000 in
set_option maxHeartbeats 8000000 in
theorem rCut_any (v pfv ptv : Value) (l : List RangeD) (pf pt : List Int) (w : World) (h : IsRgs w v l) (hpf : IsB w pfv pf) (hpt : IsB w ptv pt) (hl : l.length ≤ 1000) :
    Calls Try.prog 20 #[v, .agg #[pfv, ptv]] w (PtsP (cutL l (pf, pt)) w) := by
  obtain ⟨i0, hi0, hz0, hz1, hz2⟩ := info_parts infoPt
  have HI := Lib.hid hi0; have HZ0 := Lib.hid hz0; have HZ1 := Lib.hid hz1; have HZ2 := Lib.hid hz2
  clear hi0 hz0 hz1 hz2
  obtain ⟨ao, cap, rfl, -, -, -⟩ := h.form
  obtain ⟨pfo, pfc, rfl, -, -, -⟩ := hpf.form
  obtain ⟨pto, ptc, rfl, -, -, -⟩ := hpt.form
  have HB := Lib.hid h
  have HPF := Lib.hid hpf
  have HPT := Lib.hid hpt
  clear h hpf hpt
  go_enter Try.func20, Try.ntmps20
  go_wp2_with fail
  have P0 : Hid ((w.alloc (.cells #[.slice pfo pf.length pfc, .slice pto pt.length ptc] 25)).cell? ⟨w.heap.size, 0, none⟩ = some (.slice pfo pf.length pfc)) := Lib.hid (by go_simp)
  have P1 : Hid ((w.alloc (.cells #[.slice pfo pf.length pfc, .slice pto pt.length ptc] 25)).cell? ⟨w.heap.size, 1, none⟩ = some (.slice pto pt.length ptc)) := Lib.hid (by go_simp)
  have hsz : (w.alloc (.cells #[.slice pfo pf.length pfc, .slice pto pt.length ptc] 25)).heap.size = w.heap.size + 1 := by simp
  have hbw : Below w.heap.size w (w.alloc (.cells #[.slice pfo pf.length pfc, .slice pto pt.length ptc] 25)) := (Below.refl _ w).alloc (Nat.le_refl _) _
  generalize w.alloc (.cells #[.slice pfo pf.length pfc, .slice pto pt.length ptc] 25) = W at *
  have HSZ := Lib.hid hsz
  have HBW := Lib.hid hbw
  clear hsz hbw
  go_loopw [5, 6] (fun v i wr => ∃ (k : Nat) (ps : List PV), k ≤ l.length ∧ i = .int .i64 k ∧ Hid (ps.map (·.1) = cutL (l.take k) (pf, pt)) ∧ Hid (wr.ownsRow W.heap.size 52 6 v ps.length (ps.flatMap cells6)) ∧ Hid (∀ p ∈ ps, PtB W p) ∧ Hid (Below W.heap.size W wr)) (fun _ i _ => l.length - (intOf i).toNat)
  case atStart => exact ⟨0, [], Nat.zero_le _, rfl, rfl, ⟨rfl, .inl ⟨rfl, rfl⟩⟩, (fun _ h => by cases h), Below.refl _ _⟩
  case round =>
    obtain ⟨k, ps, hk, rfl, hps, hown, hgood, hbelW⟩ := hrel
    have hbel : Hid (Below w.heap.size w wr) := Lib.hid (bel_call HBW.out hbelW.out)
    have zW : W.heap.size ≤ wr.heap.size := hbelW.out.size
    have zw : w.heap.size < wr.heap.size := by have := HSZ.out; omega
    have hpl : ps.length ≤ k := by
      have h1 := congrArg List.length hps.out
      rw [List.length_map] at h1
      have h2 := cutL_len (l.take k) (pf, pt)
      rw [List.length_take] at h2
      omega
    by_cases hlt : k < l.length
    · obtain ⟨b, o, x, fv, tv, hao, hbb, hx, c0', c1', c2', c3', hfv, htv, hI⟩ := IsRgs.at4 HB.out hlt
      subst hao
      have c0 := (hbel.out.cell (p := ⟨b, o + k * 4, none⟩) hbb).trans c0'
      have c1 := (hbel.out.cell (p := ⟨b, o + k * 4 + 1, none⟩) hbb).trans c1'
      have c2 := (hbel.out.cell (p := ⟨b, o + k * 4 + 2, none⟩) hbb).trans c2'
      have c3 := (hbel.out.cell (p := ⟨b, o + k * 4 + 3, none⟩) hbb).trans c3'
      have p0 := (hbelW.out.cell (p := ⟨w.heap.size, 0, none⟩) (by have := HSZ.out; show w.heap.size < W.heap.size; omega)).trans P0.out
      have p1 := (hbelW.out.cell (p := ⟨w.heap.size, 1, none⟩) (by have := HSZ.out; show w.heap.size < W.heap.size; omega)).trans P1.out
      obtain ⟨fo, fc, rfl, -, -, -⟩ := hfv.out.form
      obtain ⟨to, tc, rfl, -, -, -⟩ := htv.out.form
      have hl0 : (k : Int) < l.length := by omega
      have hl1 : 0 ≤ (k : Int) := by omega
      have hw1 := IntWalk.i64_in ((k : Int) + 1) (by omega)
      have zb : b < wr.heap.size := by have := hbel.out.size; omega
      have B0 : Hid (Below w.heap.size w wr.drew) := Lib.hid hbel.out.drew
      have HMT := Lib.hid (rMeet_any _ _ _ _ x.2.1 x.2.2.1 pf pt wr.drew (hfv.out.below B0.out) (htv.out.below B0.out) (HPF.out.below B0.out) (HPT.out.below B0.out))
      have HSN : Hid (cutL (l.take (k + 1)) (pf, pt) = cutL (l.take k) (pf, pt) ++ (if meetB (x.2.1, x.2.2.1) (pf, pt) = true then [(x, shareD (x.2.1, x.2.2.1) (pf, pt))] else [])) := Lib.hid (by rw [take_snoc hx.out]; exact cutL_snoc (l.take k) x (pf, pt))
      clear c0' c1' c2' c3'
      go_wp2_with fail
      refine wp_region_T (fun w' => Below wr.heap.size wr w') [6, 7] (by kernel_rfl) ?_ (fun hS9 => ?_)
      · exact (Below.refl _ _).drew
      refine wpAnyT_take (i := 0) rfl (by kernel_rfl) (by kernel_rfl) (by kernel_rfl) (by kernel_rfl) (by kernel_rfl) (by rfl) hS9 ?_; apply Exists.intro; refine ⟨fun _ _ _ h => h, fun w9 hT9 => ?_, ?_⟩
      · (try dsimp only at hT9); go_simp; first | done | with_reducible rfl | rfl
      simp only [Act.put, List.setIfInBounds_toArray, List.set_cons_succ, List.set_cons_zero]
      refine wpAnyT_take (i := 1) rfl (by kernel_rfl) (by kernel_rfl) (by kernel_rfl) (by kernel_rfl) (by kernel_rfl) (by rfl) hS9 ?_; apply Exists.intro; refine ⟨fun _ _ _ h => h, fun w9 hT9 => ?_, ?_⟩
      · (try dsimp only at hT9); go_simp; first | done | with_reducible rfl | rfl
      simp only [Act.put, List.setIfInBounds_toArray, List.set_cons_succ, List.set_cons_zero]
      refine wpAnyT_take (i := 2) rfl (by kernel_rfl) (by kernel_rfl) (by kernel_rfl) (by kernel_rfl) (by kernel_rfl) (by rfl) hS9 ?_; apply Exists.intro; refine ⟨fun _ _ _ h => h, fun w9 hT9 => ?_, ?_⟩
      · (try dsimp only at hT9); go_simp; first | done | with_reducible rfl | rfl
      simp only [Act.put, List.setIfInBounds_toArray, List.set_cons_succ, List.set_cons_zero]
      refine wpAnyT_take (i := 3) rfl (by kernel_rfl) (by kernel_rfl) (by kernel_rfl) (by kernel_rfl) (by kernel_rfl) (by rfl) hS9 ?_; apply Exists.intro; refine ⟨fun _ _ _ h => h, fun w9 hT9 => ?_, ?_⟩
      · (try dsimp only at hT9); go_simp; first | done | with_reducible rfl | rfl
      simp only [Act.put, List.setIfInBounds_toArray, List.set_cons_succ, List.set_cons_zero]
      refine wpAnyT_take (i := 4) rfl (by kernel_rfl) (by kernel_rfl) (by kernel_rfl) (by kernel_rfl) (by kernel_rfl) (by rfl) hS9 ?_; apply Exists.intro; refine ⟨fun _ _ _ h => h, fun w9 hT9 => ?_, ?_⟩
      · (try dsimp only at hT9); obtain ⟨hcc9, hff9⟩ := bcell hT9; go_simp; first | done | with_reducible rfl | rfl
      simp only [Act.put, List.setIfInBounds_toArray, List.set_cons_succ, List.set_cons_zero]
      refine wpAnyT_take (i := 5) rfl (by kernel_rfl) (by kernel_rfl) (by kernel_rfl) (by kernel_rfl) (by kernel_rfl) (by rfl) hS9 ?_; apply Exists.intro; refine ⟨fun _ _ _ h => h, fun w9 hT9 => ?_, ?_⟩
      · (try dsimp only at hT9); obtain ⟨hcc9, hff9⟩ := bcell hT9; go_simp; first | done | with_reducible rfl | rfl
      simp only [Act.put, List.setIfInBounds_toArray, List.set_cons_succ, List.set_cons_zero]
      refine wpAnyT_free (i := 6) rfl (by kernel_rfl) (by kernel_rfl) (fun K9 hK9 => ?_)
      go_simp; (with_reducible refine Calls.mono HMT.out ?_); rintro e w2 ⟨rfl, hb⟩; have HB2 := Lib.hid hb
      refine hK9.out _ _ ?_; clear hK9 K9
      (try simp only [Act.put, List.setIfInBounds_toArray, List.set_cons_succ, List.set_cons_zero])
      refine wpAnyT_free (i := 7) rfl (by kernel_rfl) (by kernel_rfl) (fun K9 hK9 => ?_)
      go_simp
      refine hK9.out _ _ ?_; clear hK9 K9
      (try simp only [Act.put, List.setIfInBounds_toArray, List.set_cons_succ, List.set_cons_zero])
      refine wpAnyT_done (by kernel_rfl) ?_ _; have HS9 := Lib.hid hS9; clear hS9
      have hb : Below wr.heap.size wr w2 := bel_of_drew HB2.out
      replace c0 := (hb.cell (p := ⟨b, o + k * 4, none⟩) zb).trans c0
      replace c1 := (hb.cell (p := ⟨b, o + k * 4 + 1, none⟩) zb).trans c1
      replace c2 := (hb.cell (p := ⟨b, o + k * 4 + 2, none⟩) zb).trans c2
      replace c3 := (hb.cell (p := ⟨b, o + k * 4 + 3, none⟩) zb).trans c3
      replace p0 := (hb.cell (p := ⟨w.heap.size, 0, none⟩) zw).trans p0
      replace p1 := (hb.cell (p := ⟨w.heap.size, 1, none⟩) zw).trans p1
      have z2 : wr.heap.size ≤ w2.heap.size := hb.size
      have z3 : w.heap.size < w2.heap.size := by omega
      have z4 : b < w2.heap.size := by omega
      have G2 : Hid (Below wr.heap.size wr w2) := Lib.hid hb
      have GW2 := Lib.hid (bel_call hbel.out G2.out)
      have GV2 : Hid (Below W.heap.size W w2) := Lib.hid (bel_call hbelW.out G2.out)
      have O2 := own_below hown.out G2.out
      clear hb
      cases hm : meetB (x.2.1, x.2.2.1) (pf, pt)
      · have HN : Hid (ps.map (·.1) = cutL (l.take (k + 1)) (pf, pt)) := Lib.hid (by rw [HSN.out, hm, hps.out]; simp)
        have OW := Lib.hid O2
        clear hm O2
        go_wp2_with fail
        go_roundw
        case rel => exact ⟨k + 1, ps, by omega, by go_num, HN.out, OW.out, hgood.out, GV2.out⟩
        case measure => simp [intOf]; omega
      · have HN : Hid (cutL (l.take (k + 1)) (pf, pt) = ps.map (·.1) ++ [(x, shareD (x.2.1, x.2.2.1) (pf, pt))]) := Lib.hid (by rw [HSN.out, hm, hps.out]; simp)
        obtain ⟨vo, vc, rfl, -, -, -, -⟩ := own_form O2
        have OW := Lib.hid O2
        have HSHA := Lib.hid (rShare_any _ _ _ _ x.2.1 x.2.2.1 pf pt w2.drew (hfv.out.below GW2.out.drew) (htv.out.below GW2.out.drew) (HPF.out.below GW2.out.drew) (HPT.out.below GW2.out.drew))
        unfold RShareP at HSHA
        have PXB : Hid (∀ X Y, EitherP X (shareD (x.2.1, x.2.2.1) (pf, pt)).1 (.slice fo x.2.1.length fc) x.2.1 (.slice pfo pf.length pfc) pf → EitherP Y (shareD (x.2.1, x.2.2.1) (pf, pt)).2 (.slice to x.2.2.1.length tc) x.2.2.1 (.slice pto pt.length ptc) pt →
            IsB W X (shareD (x.2.1, x.2.2.1) (pf, pt)).1 ∧ IsB W Y (shareD (x.2.1, x.2.2.1) (pf, pt)).2) := Lib.hid (fun X Y h1 h2 => ⟨h1.isB (hfv.out.below HBW.out) (HPF.out.below HBW.out), h2.isB (htv.out.below HBW.out) (HPT.out.below HBW.out)⟩)
        clear hm O2
        generalize hSH : shareD (x.2.1, x.2.2.1) (pf, pt) = sh at *
        clear hSH
        go_wp2_with fail
        refine wp_region_T (fun w' => Below w2.heap.size w2 w') [14, 15] (by kernel_rfl) ?_ (fun hS9 => ?_)
        · exact (Below.refl _ _).drew
        refine wpAnyT_take (i := 0) rfl (by kernel_rfl) (by kernel_rfl) (by kernel_rfl) (by kernel_rfl) (by kernel_rfl) (by rfl) hS9 ?_; apply Exists.intro; refine ⟨fun _ _ _ h => h, fun w9 hT9 => ?_, ?_⟩
        · (try dsimp only at hT9); go_simp; first | done | with_reducible rfl | rfl
        simp only [Act.put, List.setIfInBounds_toArray, List.set_cons_succ, List.set_cons_zero]
        refine wpAnyT_take (i := 1) rfl (by kernel_rfl) (by kernel_rfl) (by kernel_rfl) (by kernel_rfl) (by kernel_rfl) (by rfl) hS9 ?_; apply Exists.intro; refine ⟨fun _ _ _ h => h, fun w9 hT9 => ?_, ?_⟩
        · (try dsimp only at hT9); go_simp; first | done | with_reducible rfl | rfl
        simp only [Act.put, List.setIfInBounds_toArray, List.set_cons_succ, List.set_cons_zero]
        refine wpAnyT_take (i := 2) rfl (by kernel_rfl) (by kernel_rfl) (by kernel_rfl) (by kernel_rfl) (by kernel_rfl) (by rfl) hS9 ?_; apply Exists.intro; refine ⟨fun _ _ _ h => h, fun w9 hT9 => ?_, ?_⟩
        · (try dsimp only at hT9); go_simp; first | done | with_reducible rfl | rfl
        simp only [Act.put, List.setIfInBounds_toArray, List.set_cons_succ, List.set_cons_zero]
        refine wpAnyT_take (i := 3) rfl (by kernel_rfl) (by kernel_rfl) (by kernel_rfl) (by kernel_rfl) (by kernel_rfl) (by rfl) hS9 ?_; apply Exists.intro; refine ⟨fun _ _ _ h => h, fun w9 hT9 => ?_, ?_⟩
        · (try dsimp only at hT9); go_simp; first | done | with_reducible rfl | rfl
        simp only [Act.put, List.setIfInBounds_toArray, List.set_cons_succ, List.set_cons_zero]
        refine wpAnyT_take (i := 4) rfl (by kernel_rfl) (by kernel_rfl) (by kernel_rfl) (by kernel_rfl) (by kernel_rfl) (by rfl) hS9 ?_; apply Exists.intro; refine ⟨fun _ _ _ h => h, fun w9 hT9 => ?_, ?_⟩
        · (try dsimp only at hT9); obtain ⟨hcc9, hff9⟩ := bcell hT9; go_simp; first | done | with_reducible rfl | rfl
        simp only [Act.put, List.setIfInBounds_toArray, List.set_cons_succ, List.set_cons_zero]
        refine wpAnyT_take (i := 5) rfl (by kernel_rfl) (by kernel_rfl) (by kernel_rfl) (by kernel_rfl) (by kernel_rfl) (by rfl) hS9 ?_; apply Exists.intro; refine ⟨fun _ _ _ h => h, fun w9 hT9 => ?_, ?_⟩
        · (try dsimp only at hT9); go_simp; first | done | with_reducible rfl | rfl
        simp only [Act.put, List.setIfInBounds_toArray, List.set_cons_succ, List.set_cons_zero]
        refine wpAnyT_take (i := 6) rfl (by kernel_rfl) (by kernel_rfl) (by kernel_rfl) (by kernel_rfl) (by kernel_rfl) (by rfl) hS9 ?_; apply Exists.intro; refine ⟨fun _ _ _ h => h, fun w9 hT9 => ?_, ?_⟩
        · (try dsimp only at hT9); go_simp; first | done | with_reducible rfl | rfl
        simp only [Act.put, List.setIfInBounds_toArray, List.set_cons_succ, List.set_cons_zero]
        refine wpAnyT_take (i := 7) rfl (by kernel_rfl) (by kernel_rfl) (by kernel_rfl) (by kernel_rfl) (by kernel_rfl) (by rfl) hS9 ?_; apply Exists.intro; refine ⟨fun _ _ _ h => h, fun w9 hT9 => ?_, ?_⟩
        · (try dsimp only at hT9); go_simp; first | done | with_reducible rfl | rfl
        simp only [Act.put, List.setIfInBounds_toArray, List.set_cons_succ, List.set_cons_zero]
        refine wpAnyT_take (i := 8) rfl (by kernel_rfl) (by kernel_rfl) (by kernel_rfl) (by kernel_rfl) (by kernel_rfl) (by rfl) hS9 ?_; apply Exists.intro; refine ⟨fun _ _ _ h => h, fun w9 hT9 => ?_, ?_⟩
        · (try dsimp only at hT9); go_simp; first | done | with_reducible rfl | rfl
        simp only [Act.put, List.setIfInBounds_toArray, List.set_cons_succ, List.set_cons_zero]
        refine wpAnyT_take (i := 9) rfl (by kernel_rfl) (by kernel_rfl) (by kernel_rfl) (by kernel_rfl) (by kernel_rfl) (by rfl) hS9 ?_; apply Exists.intro; refine ⟨fun _ _ _ h => h, fun w9 hT9 => ?_, ?_⟩
        · (try dsimp only at hT9); obtain ⟨hcc9, hff9⟩ := bcell hT9; go_simp; first | done | with_reducible rfl | rfl
        simp only [Act.put, List.setIfInBounds_toArray, List.set_cons_succ, List.set_cons_zero]
        refine wpAnyT_take (i := 10) rfl (by kernel_rfl) (by kernel_rfl) (by kernel_rfl) (by kernel_rfl) (by kernel_rfl) (by rfl) hS9 ?_; apply Exists.intro; refine ⟨fun _ _ _ h => h, fun w9 hT9 => ?_, ?_⟩
        · (try dsimp only at hT9); obtain ⟨hcc9, hff9⟩ := bcell hT9; go_simp; first | done | with_reducible rfl | rfl
        simp only [Act.put, List.setIfInBounds_toArray, List.set_cons_succ, List.set_cons_zero]
        refine wpAnyT_one (i := 11) rfl (by kernel_rfl) (fun K9 hK9 => ?_)
        go_simp; (with_reducible refine Calls.mono HSHA.out ?_); rintro e w6 ⟨X, Y, rfl, hX, hY, hb⟩; have HB6 := Lib.hid hb; have HXY := Lib.hid (PXB.out X Y hX hY); obtain ⟨xo, xc, rfl, -, -, -⟩ := HXY.out.1.form; obtain ⟨yo, yc, rfl, -, -, -⟩ := HXY.out.2.form; clear hX hY
        refine hK9.out _ _ ?_ (fun hT9 => ?_)
        · (try dsimp only); (first | exact hS9 | exact bel_call hS9 hb | exact bel_alloc hS9 _ | exact hS9.setCell (by simp <;> omega) _)
        clear hK9 K9 hS9; have hS9 := hT9; clear hT9
        (try simp only [Act.put, List.setIfInBounds_toArray, List.set_cons_succ, List.set_cons_zero])
        refine wpAnyT_one (i := 12) rfl (by kernel_rfl) (fun K9 hK9 => ?_)
        go_simp
        refine hK9.out _ _ ?_ (fun hT9 => ?_)
        · (try dsimp only); (first | exact hS9 | exact bel_call hS9 hb | exact bel_alloc hS9 _ | exact hS9.setCell (by simp <;> omega) _)
        clear hK9 K9 hS9; have hS9 := hT9; clear hT9
        (try simp only [Act.put, List.setIfInBounds_toArray, List.set_cons_succ, List.set_cons_zero])
        refine wpAnyT_one (i := 13) rfl (by kernel_rfl) (fun K9 hK9 => ?_)
        go_simp
        refine hK9.out _ _ ?_ (fun hT9 => ?_)
        · (try dsimp only); (first | exact hS9 | exact bel_call hS9 hb | exact bel_alloc hS9 _ | exact hS9.setCell (by simp <;> omega) _)
        clear hK9 K9 hS9; have hS9 := hT9; clear hT9
        (try simp only [Act.put, List.setIfInBounds_toArray, List.set_cons_succ, List.set_cons_zero])
        refine wpAnyT_free (i := 14) rfl (by kernel_rfl) (by kernel_rfl) (fun K9 hK9 => ?_)
        have O6 := Lib.hid (own_below OW.out (bel_of_drew HB6.out)); refine step_of_list rfl ?_; refine wpList_append_cells (w := w6) (base := W.heap.size) (size := 6) (n := ps.length) (xs := ps.flatMap cells6) (.tmp 22) (.tmp 35) _ rfl rfl i0 _ 112 Try.underlying43 HI.out HZ0.out HZ1.out HZ2.out rfl (by decide) [.int .i64 x.1, .slice fo x.2.1.length fc, .slice to x.2.2.1.length tc, .int .i64 x.2.2.2, .slice xo sh.1.length xc, .slice yo sh.2.length yc] rfl (by intro u hu; simp only [List.mem_cons, List.not_mem_nil, or_false] at hu; rcases hu with rfl | rfl | rfl | rfl | rfl | rfl <;> rfl) rfl rfl O6.out (by omega) (by omega) (by have q6 : w2.heap.size ≤ w6.heap.size := HB6.out.size; have q7 := GV2.out.size; omega) ?_; intro v7 w7 ho7 hg7 hk7; obtain ⟨vo7, vc7, rfl, -, -, -, -⟩ := own_form ho7; have HO7 := Lib.hid ho7; have HG7 := Lib.hid hg7; clear ho7 hg7 hk7; refine list_done ?_
        refine hK9.out _ _ ?_; clear hK9 K9
        (try simp only [Act.put, List.setIfInBounds_toArray, List.set_cons_succ, List.set_cons_zero])
        refine wpAnyT_free (i := 15) rfl (by kernel_rfl) (by kernel_rfl) (fun K9 hK9 => ?_)
        go_simp
        refine hK9.out _ _ ?_; clear hK9 K9
        (try simp only [Act.put, List.setIfInBounds_toArray, List.set_cons_succ, List.set_cons_zero])
        refine wpAnyT_done (by kernel_rfl) ?_ _; have HS9 := Lib.hid hS9; clear hS9
        have G6 : Hid (Below wr.heap.size wr w6) := Lib.hid (bel_call G2.out (bel_of_drew HB6.out))
        have GW6 : Hid (Below W.heap.size W w6) := Lib.hid (bel_call hbelW.out G6.out)
        have GW7 : Hid (Below W.heap.size W w7) := Lib.hid (bel_own GW6.out HG7.out O6.out)
        have HP : Hid (∀ p ∈ ps ++ [((x, sh), (.slice fo x.2.1.length fc, .slice to x.2.2.1.length tc), (.slice xo sh.1.length xc, .slice yo sh.2.length yc))], PtB W p) := Lib.hid (fun p hp => by
          rcases List.mem_append.1 hp with hp | hp
          · exact hgood.out p hp
          · rw [List.mem_singleton] at hp
            subst hp
            exact ⟨hfv.out.below HBW.out, htv.out.below HBW.out, HXY.out.1, HXY.out.2⟩)
        clear c0 c1 c2 c3 p0 p1
        go_wp2_with fail
        go_roundw
        case rel =>
          refine ⟨k + 1, ps ++ [((x, sh), (.slice fo x.2.1.length fc, .slice to x.2.2.1.length tc), (.slice xo sh.1.length xc, .slice yo sh.2.length yc))], by omega, by go_num, ?_, ?_, HP, GW7.out⟩
          · show List.map _ _ = _
            rw [HN.out, List.map_append]; rfl
          · have h := HO7.out
            show World.ownsRow _ _ _ _ _ _ _
            rw [List.length_append, List.flatMap_append]
            exact h
        case measure => simp [intOf]; omega
    · have hkl : k = l.length := by omega
      subst hkl
      obtain ⟨vo, vc, rfl, -, -, -, -⟩ := own_form hown.out
      have HP := Lib.hid (isPts_of_row hown.out (fun p hp => ⟨(hgood.out p hp).1.below hbelW.out, (hgood.out p hp).2.1.below hbelW.out, (hgood.out p hp).2.2.1.below hbelW.out, (hgood.out p hp).2.2.2.below hbelW.out⟩)).1
      have HE : Hid (ps.map (·.1) = cutL l (pf, pt)) := Lib.hid (by have := hps.out; rwa [List.take_length] at this)
      go_wp2_with fail
      go_ret
      exact ⟨_, rfl, HE.out ▸ HP.out, hbel.out⟩
def sameP (x y : PartD) : Bool := sameB x.1 y.1 && decide (x.2.1 = y.2.1) && decide (x.2.2 = y.2.2)
theorem sameP_iff (x y : PartD) : sameP x y = true ↔ x = y := by
  obtain ⟨a, b, c⟩ := x
  obtain ⟨a', b', c'⟩ := y
  simp only [sameP, Bool.and_eq_true, sameB_iff, decide_eq_true_eq, Prod.mk.injEq]
  constructor
  · rintro ⟨⟨h1, h2⟩, h3⟩; exact ⟨h1, h2, h3⟩
  · rintro ⟨h1, h2, h3⟩; exact ⟨⟨h1, h2⟩, h3⟩
set_option maxRecDepth 100000 in
set_option maxHeartbeats 8000000 in
theorem rSameParts_any (v u : Value) (l m : List PartD) (w : World) (hv : IsPts w v l) (hu : IsPts w u m) :
    Calls Try.prog 22 #[v, u] w (Ret (.bool (decide (l = m))) w) := by
  have hlm := hv.max
  have hmm := hu.max
  obtain ⟨ao, cap, rfl, -, -, -⟩ := hv.form
  obtain ⟨bo, bap, rfl, -, -, -⟩ := hu.form
  have HV := Lib.hid hv
  have HU := Lib.hid hu
  clear hv hu
  by_cases hn : l.length = m.length
  · have e1 : ((l.length : Int) != (m.length : Int)) = false := by rw [hn]; simp
    have HN := Lib.hid hn
    clear hn
    go_enter Try.func22, Try.ntmps22
    go_wp2_with fail
    go_loopw [5] (fun i wr => ∃ k : Nat, k ≤ l.length ∧ i = .int .i64 k ∧ Hid (l.take k = m.take k) ∧ Hid (Below w.heap.size w wr)) (fun i _ => l.length - (intOf i).toNat)
    case atStart => exact ⟨0, Nat.zero_le _, rfl, rfl, Below.refl _ _⟩
    case round =>
      obtain ⟨k, hk, rfl, heq, hbel⟩ := hrel
      by_cases hlt : k < l.length
      · obtain ⟨b, o, x, fv, tv, sfv, stv, hao, hbb, hx, c0', c1', c2', c3', c4', c5', hfv, htv, hsf, hst⟩ := IsPts.at6 HV.out hlt
        obtain ⟨b', o', y, gv, uv, sgv, suv, hbo, hbb', hy, d0', d1', d2', d3', d4', d5', hgv, huv, hsg, hsu⟩ := IsPts.at6 HU.out (show k < m.length by have := HN.out; omega)
        subst hao hbo
        have c0 := (hbel.out.cell (p := ⟨b, o + k * 6, none⟩) hbb).trans c0'
        have d0 := (hbel.out.cell (p := ⟨b', o' + k * 6, none⟩) hbb').trans d0'
        have c1 := (hbel.out.cell (p := ⟨b, o + k * 6 + 1, none⟩) hbb).trans c1'
        have d1 := (hbel.out.cell (p := ⟨b', o' + k * 6 + 1, none⟩) hbb').trans d1'
        have c2 := (hbel.out.cell (p := ⟨b, o + k * 6 + 2, none⟩) hbb).trans c2'
        have d2 := (hbel.out.cell (p := ⟨b', o' + k * 6 + 2, none⟩) hbb').trans d2'
        have c3 := (hbel.out.cell (p := ⟨b, o + k * 6 + 3, none⟩) hbb).trans c3'
        have d3 := (hbel.out.cell (p := ⟨b', o' + k * 6 + 3, none⟩) hbb').trans d3'
        have c4 := (hbel.out.cell (p := ⟨b, o + k * 6 + 4, none⟩) hbb).trans c4'
        have d4 := (hbel.out.cell (p := ⟨b', o' + k * 6 + 4, none⟩) hbb').trans d4'
        have c5 := (hbel.out.cell (p := ⟨b, o + k * 6 + 5, none⟩) hbb).trans c5'
        have d5 := (hbel.out.cell (p := ⟨b', o' + k * 6 + 5, none⟩) hbb').trans d5'
        have HC := Lib.hid (rSame_any _ _ _ _ x.1.1 x.1.2.2.2 y.1.1 y.1.2.2.2 x.1.2.1 x.1.2.2.1 y.1.2.1 y.1.2.2.1 wr.drew (hfv.out.below hbel.out.drew) (htv.out.below hbel.out.drew) (hgv.out.below hbel.out.drew) (huv.out.below hbel.out.drew))
        obtain ⟨fo, fc, rfl, -, -, -⟩ := hfv.out.form
        obtain ⟨to, tc, rfl, -, -, -⟩ := htv.out.form
        obtain ⟨go, gc, rfl, -, -, -⟩ := hgv.out.form
        obtain ⟨uo, uc, rfl, -, -, -⟩ := huv.out.form
        obtain ⟨sfo, sfc, rfl, -, -, -⟩ := hsf.out.form
        obtain ⟨sto, stc, rfl, -, -, -⟩ := hst.out.form
        obtain ⟨sgo, sgc, rfl, -, -, -⟩ := hsg.out.form
        obtain ⟨suo, suc, rfl, -, -, -⟩ := hsu.out.form
        have hl0 : (k : Int) < l.length := by omega
        have hm0 : (k : Int) < m.length := by have := HN.out; omega
        have hm1 : k < m.length := by omega
        have hl1 : 0 ≤ (k : Int) := by omega
        have hw1 := IntWalk.i64_in ((k : Int) + 1) (by omega)
        have C4 := Lib.hid c4'; have C5 := Lib.hid c5'; have D4 := Lib.hid d4'; have D5 := Lib.hid d5'
        clear c0' c1' c2' c3' c4' c5' d0' d1' d2' d3' d4' d5'
        have zb1 : b < wr.heap.size := Nat.lt_of_lt_of_le hbb hbel.out.size
        have zb2 : b' < wr.heap.size := Nat.lt_of_lt_of_le hbb' hbel.out.size
        go_wp2_with fail
        refine wp_region_T (fun w' => Below wr.heap.size wr w') [10, 11] (by kernel_rfl) ?_ (fun hS9 => ?_)
        · exact (Below.refl _ _).drew
        refine wpAnyT_take (i := 0) rfl (by kernel_rfl) (by kernel_rfl) (by kernel_rfl) (by kernel_rfl) (by kernel_rfl) (by rfl) hS9 ?_; apply Exists.intro; refine ⟨fun _ _ _ h => h, fun w9 hT9 => ?_, ?_⟩
        · (try dsimp only at hT9); go_simp; first | done | with_reducible rfl | rfl
        simp only [Act.put, List.setIfInBounds_toArray, List.set_cons_succ, List.set_cons_zero]
        refine wpAnyT_take (i := 1) rfl (by kernel_rfl) (by kernel_rfl) (by kernel_rfl) (by kernel_rfl) (by kernel_rfl) (by rfl) hS9 ?_; apply Exists.intro; refine ⟨fun _ _ _ h => h, fun w9 hT9 => ?_, ?_⟩
        · (try dsimp only at hT9); go_simp; first | done | with_reducible rfl | rfl
        simp only [Act.put, List.setIfInBounds_toArray, List.set_cons_succ, List.set_cons_zero]
        refine wpAnyT_take (i := 2) rfl (by kernel_rfl) (by kernel_rfl) (by kernel_rfl) (by kernel_rfl) (by kernel_rfl) (by rfl) hS9 ?_; apply Exists.intro; refine ⟨fun _ _ _ h => h, fun w9 hT9 => ?_, ?_⟩
        · (try dsimp only at hT9); go_simp; first | done | with_reducible rfl | rfl
        simp only [Act.put, List.setIfInBounds_toArray, List.set_cons_succ, List.set_cons_zero]
        refine wpAnyT_take (i := 3) rfl (by kernel_rfl) (by kernel_rfl) (by kernel_rfl) (by kernel_rfl) (by kernel_rfl) (by rfl) hS9 ?_; apply Exists.intro; refine ⟨fun _ _ _ h => h, fun w9 hT9 => ?_, ?_⟩
        · (try dsimp only at hT9); go_simp; first | done | with_reducible rfl | rfl
        simp only [Act.put, List.setIfInBounds_toArray, List.set_cons_succ, List.set_cons_zero]
        refine wpAnyT_take (i := 4) rfl (by kernel_rfl) (by kernel_rfl) (by kernel_rfl) (by kernel_rfl) (by kernel_rfl) (by rfl) hS9 ?_; apply Exists.intro; refine ⟨fun _ _ _ h => h, fun w9 hT9 => ?_, ?_⟩
        · (try dsimp only at hT9); obtain ⟨hcc9, hff9⟩ := bcell hT9; go_simp; first | done | with_reducible rfl | rfl
        simp only [Act.put, List.setIfInBounds_toArray, List.set_cons_succ, List.set_cons_zero]
        refine wpAnyT_take (i := 5) rfl (by kernel_rfl) (by kernel_rfl) (by kernel_rfl) (by kernel_rfl) (by kernel_rfl) (by rfl) hS9 ?_; apply Exists.intro; refine ⟨fun _ _ _ h => h, fun w9 hT9 => ?_, ?_⟩
        · (try dsimp only at hT9); go_simp; first | done | with_reducible rfl | rfl
        simp only [Act.put, List.setIfInBounds_toArray, List.set_cons_succ, List.set_cons_zero]
        refine wpAnyT_take (i := 6) rfl (by kernel_rfl) (by kernel_rfl) (by kernel_rfl) (by kernel_rfl) (by kernel_rfl) (by rfl) hS9 ?_; apply Exists.intro; refine ⟨fun _ _ _ h => h, fun w9 hT9 => ?_, ?_⟩
        · (try dsimp only at hT9); go_simp; first | done | with_reducible rfl | rfl
        simp only [Act.put, List.setIfInBounds_toArray, List.set_cons_succ, List.set_cons_zero]
        refine wpAnyT_take (i := 7) rfl (by kernel_rfl) (by kernel_rfl) (by kernel_rfl) (by kernel_rfl) (by kernel_rfl) (by rfl) hS9 ?_; apply Exists.intro; refine ⟨fun _ _ _ h => h, fun w9 hT9 => ?_, ?_⟩
        · (try dsimp only at hT9); go_simp; first | done | with_reducible rfl | rfl
        simp only [Act.put, List.setIfInBounds_toArray, List.set_cons_succ, List.set_cons_zero]
        refine wpAnyT_take (i := 8) rfl (by kernel_rfl) (by kernel_rfl) (by kernel_rfl) (by kernel_rfl) (by kernel_rfl) (by rfl) hS9 ?_; apply Exists.intro; refine ⟨fun _ _ _ h => h, fun w9 hT9 => ?_, ?_⟩
        · (try dsimp only at hT9); go_simp; first | done | with_reducible rfl | rfl
        simp only [Act.put, List.setIfInBounds_toArray, List.set_cons_succ, List.set_cons_zero]
        refine wpAnyT_take (i := 9) rfl (by kernel_rfl) (by kernel_rfl) (by kernel_rfl) (by kernel_rfl) (by kernel_rfl) (by rfl) hS9 ?_; apply Exists.intro; refine ⟨fun _ _ _ h => h, fun w9 hT9 => ?_, ?_⟩
        · (try dsimp only at hT9); obtain ⟨hcc9, hff9⟩ := bcell hT9; go_simp; first | done | with_reducible rfl | rfl
        simp only [Act.put, List.setIfInBounds_toArray, List.set_cons_succ, List.set_cons_zero]
        refine wpAnyT_free (i := 10) rfl (by kernel_rfl) (by kernel_rfl) (fun K9 hK9 => ?_)
        go_simp; (with_reducible refine Calls.mono HC.out ?_); rintro e w5 ⟨rfl, hb⟩; have HB5 := Lib.hid hb
        refine hK9.out _ _ ?_; clear hK9 K9
        (try simp only [Act.put, List.setIfInBounds_toArray, List.set_cons_succ, List.set_cons_zero])
        refine wpAnyT_free (i := 11) rfl (by kernel_rfl) (by kernel_rfl) (fun K9 hK9 => ?_)
        go_simp
        refine hK9.out _ _ ?_; clear hK9 K9
        (try simp only [Act.put, List.setIfInBounds_toArray, List.set_cons_succ, List.set_cons_zero])
        refine wpAnyT_done (by kernel_rfl) ?_ _; have HS9 := Lib.hid hS9; clear hS9
        have GW5 : Hid (Below w.heap.size w w5) := Lib.hid (bel_call hbel.out (bel_of_drew HB5.out))
        clear c0 c1 c2 c3 c4 c5 d0 d1 d2 d3 d4 d5
        have c4 := (GW5.out.cell (p := ⟨b, o + k * 6 + 4, none⟩) hbb).trans C4.out
        have c5 := (GW5.out.cell (p := ⟨b, o + k * 6 + 5, none⟩) hbb).trans C5.out
        have d4 := (GW5.out.cell (p := ⟨b', o' + k * 6 + 4, none⟩) hbb').trans D4.out
        have d5 := (GW5.out.cell (p := ⟨b', o' + k * 6 + 5, none⟩) hbb').trans D5.out
        have k1 := fun nq => (hsf.out.below (below_drewN GW5.out nq)).conv Try.underlying23 Try.underlying5 Try.underlying9
        have k2 := fun nq => (hst.out.below (below_drewN GW5.out nq)).conv Try.underlying23 Try.underlying5 Try.underlying9
        have k3 := fun nq => (hsg.out.below (below_drewN GW5.out nq)).conv Try.underlying23 Try.underlying5 Try.underlying9
        have k4 := fun nq => (hsu.out.below (below_drewN GW5.out nq)).conv Try.underlying23 Try.underlying5 Try.underlying9
        have s1 := str_beq hsf.out.rng hsg.out.rng
        have s2 := str_beq hst.out.rng hsu.out.rng
        have HE : Hid (sameP x y = (sameB x.1 y.1 && decide (x.2.1 = y.2.1) && decide (x.2.2 = y.2.2))) := Lib.hid rfl
        have HF : Hid (sameP x y = false → decide (l = m) = false) := Lib.hid (fun hsm => decide_eq_false (fun h => by have e1 := hx.out; have e2 := hy.out; rw [h, e2] at e1; cases e1; rw [(sameP_iff x x).2 rfl] at hsm; cases hsm))
        have HT : Hid (sameP x y = true → l.take (k + 1) = m.take (k + 1)) := Lib.hid (fun hsm => by rw [take_snoc hx.out, take_snoc hy.out, heq.out, (sameP_iff x y).1 hsm])
        cases q1 : sameB x.1 y.1
        · skip
          have HD := Lib.hid (HF.out (by rw [HE.out, q1]; rfl))
          go_wp2_with fail
          go_quiet (fail)
          go_wp2_with fail
          go_ret
          exact ⟨by rw [HD.out]; rfl, below_drewN GW5.out _⟩
        cases q2 : decide (x.2.1 = y.2.1)
        · rw [q2] at s1
          have HD := Lib.hid (HF.out (by rw [HE.out, q1, q2]; rfl))
          go_wp2_with fail
          go_quiet (fail)
          go_wp2_with fail
          go_ret
          exact ⟨by rw [HD.out]; rfl, below_drewN GW5.out _⟩
        rw [q2] at s1
        cases q3 : decide (x.2.2 = y.2.2)
        · rw [q3] at s2
          have HD := Lib.hid (HF.out (by rw [HE.out, q1, q2, q3]; rfl))
          go_wp2_with fail
          go_quiet (fail)
          go_wp2_with fail
          go_ret
          exact ⟨by rw [HD.out]; rfl, below_drewN GW5.out _⟩
        rw [q3] at s2
        have HD := Lib.hid (HT.out (by rw [HE.out, q1, q2, q3]; rfl))
        go_wp2_with fail
        go_quiet (fail)
        go_wp2_with fail
        go_roundw
        case rel => exact ⟨k + 1, by omega, by go_num, HD.out, below_drewN GW5.out _⟩
        case measure => simp [intOf]; omega
      · have hkl : k = l.length := by omega
        subst hkl
        have HT : Hid (decide (l = m) = true) := Lib.hid (decide_eq_true (by have h := heq.out; rw [List.take_length, HN.out, List.take_length] at h; exact h))
        have hm0 : ((l.length : Int) < (l.length : Int)) = False := by simp
        go_wp2_with fail
        go_ret
        exact ⟨by rw [HT.out]; rfl, hbel.out⟩
  · have e1 : ((l.length : Int) != (m.length : Int)) = true := by rw [bne_iff_ne]; omega
    have HN : Hid (decide (l = m) = false) := Lib.hid (decide_eq_false (fun h => hn (by rw [h])))
    clear hn
    go_enter Try.func22, Try.ntmps22
    go_wp2_with fail
    go_ret
    exact ⟨by rw [HN.out]; rfl, Below.refl _ _⟩
end Rm
end Go.Proofs.Ytbeniogffhihlaa
