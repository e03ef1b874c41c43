/- memtable: MemtablePlays (walk). -/
import Derived.Test.YtgkgfghmpimaoaaMt23
import Derived.Deep.CutBlock
set_option linter.unusedVariables false
set_option linter.unusedSimpArgs false
namespace Go.Proofs.Ytgkgfghmpimaoaa
open Go.RowKit
namespace Mt
theorem WrI.mono {T T' : Nat → Prop} {w : World} {ao : Option Addr} {n : Nat} (h : WrI T w ao n) (k : ∀ b, T b → T' b) : WrI T' w ao n := by
  intro hn
  obtain ⟨g', cur, q1, q2, q3, q4⟩ := h hn
  exact ⟨g', cur, q1, k g' q2, q3, q4⟩
theorem OwnEs.at4 {w : World} {base n cap k : Nat} {ao : Option Addr} {l : List En} (h : OwnEs w base (.slice ao n cap) l) (hk : k < l.length) :
    ∃ g o, ∃ r : EV, ao = some ⟨g, o, none⟩ ∧ g < w.heap.size ∧ (¬ ∃ cur, w.heap[g]? = some (.cells cur 5 (0, 0))) ∧ w.cell? ⟨g, o + k * 4, none⟩ = some r.2.1 ∧ w.cell? ⟨g, o + k * 4 + 1, none⟩ = some (.int .u64 r.1.2.1) ∧ w.cell? ⟨g, o + k * 4 + 2, none⟩ = some (.bool r.1.2.2.1) ∧ w.cell? ⟨g, o + k * 4 + 3, none⟩ = some r.2.2 ∧ Hid (GoodE w base r) := by
  obtain ⟨rs, rfl, ho, hg⟩ := h
  rw [List.length_map] at hk
  obtain ⟨ao1, cap1, e1, -⟩ := own_form ho
  cases e1
  have hr : rs[k]? = some (rs[k]'hk) := List.getElem?_eq_getElem hk
  generalize rs[k]'hk = r at hr
  have hc : ∀ j u, (c4 r)[j]? = some u → (rs.flatMap c4)[k * 4 + j]? = some u := fun j u hu => by
    rw [flat_get c4_len rs k j r hr (by have := (List.getElem?_eq_some_iff.1 hu).1; rwa [c4_len] at this)]; exact hu
  obtain ⟨g, hao, hbg, hgl, hcell⟩ := own_cell ho (hc 0 _ rfl)
  subst hao
  refine ⟨g, 0, r, rfl, hgl, fun ⟨cur, h9⟩ => ?_, ?_, ?_, ?_, ?_, hg r (List.mem_of_getElem? hr)⟩
  · obtain ⟨-, -, cv, h8⟩ := own_typed ho g rfl
    rw [h9] at h8
    cases h8
  · rw [Nat.zero_add]; exact own_cell' ho (hc 0 _ rfl)
  · rw [Nat.zero_add]; exact own_cell' ho (hc 1 _ rfl)
  · rw [Nat.zero_add]; exact own_cell' ho (hc 2 _ rfl)
  · rw [Nat.zero_add]; exact own_cell' ho (hc 3 _ rfl)
theorem run_empty (w : World) : (w.alloc (.cells #[] 3)).ownsRow w.heap.size 3 1 (.slice (some ⟨w.heap.size, 0, none⟩) 0 0) 0 (#[] : Array Value).toList := World.ownsRow_lit w #[] 0 (Nat.le_refl _) (by simp [maxLen]) (by simp)
set_option maxRecDepth 100000 in
set_option maxHeartbeats 8000000 in
theorem plays_any (hv dv : Value) (hs : List Int) (l : List De) (w : World) (ih : IsI w hv hs) (idl : IsDs w dv l) (hb : hs.length ≤ 17592186044416) : Calls Try.prog 3 #[hv, dv] w (Ret (.bool true) w) := by
  obtain ⟨i0, hi0, hz0, hz1, hz2⟩ := info_parts infoI
  have HI := Lib.hid hi0; have HZ0 := Lib.hid hz0; have HZ1 := Lib.hid hz1; have HZ2 := Lib.hid hz2
  obtain ⟨ho, hc, rfl, -, -, -⟩ := ih.form
  obtain ⟨dl, dc, rfl, -, -, -⟩ := idl.form
  have hdm := idl.max
  have HSH := Lib.hid (shown_any w)
  have IH := Lib.hid ih
  have ID := Lib.hid idl
  have HB := Lib.hid hb
  clear hi0 hz0 hz1 hz2 ih idl hb
  go_enter Try.func3, Try.ntmps3
  go_wp2_with fail
  refine HSH.out.mono ?_
  rintro e w1 ⟨rfl, hb1⟩
  have HW1 := Lib.hid hb1
  clear hb1
  go_wp2_with (at_builtin; refine wpList_append_slc (w := w1.alloc (.cells #[] 3)) (base := w1.heap.size) (.tmp 31) (.tmp 32) _ rfl rfl i0 _ 8 Try.underlying22 HI.out HZ0.out HZ1.out HZ2.out rfl (by decide) _ hs.length (hs.map (Value.int .i64)) rfl rfl (run_empty w1) (IsI.slc (IH.out.below inR_stays (bel_alloc HW1.out _))) (ints_oneCell _ _) (by have := HB.out; unfold maxLen; omega) (by have := HB.out; omega) (by simp) ?_; intro v2 w2 hown2 hb2; have HO2 : Hid (w2.ownsRow w1.heap.size 3 1 v2 hs.length (hs.map (Value.int .i64))) := Lib.hid (by simpa using hown2); have G2 : Hid (Below w.heap.size w w2) := Lib.hid (bel_call HW1.out (bel_own (bel_alloc (Below.refl _ w1) (.cells #[] 3)) hb2 (run_empty w1))); obtain ⟨oo, oc, rfl, -, -, -, -⟩ := own_form HO2.out; have HN1 := Lib.hid (tNew _ hs w2 (isI_own HO2.out IH.out.rng) HB.out); clear hown2 hb2)
  refine HN1.out.mono ?_
  unfold NewQ
  rintro e w3 ⟨ta, rfl, ta2, tb2⟩
  have TA := Lib.hid ta2
  have TB := Lib.hid tb2
  have HN2 := Lib.hid (rnew_any _ hs w3 (IH.out.below inR_stays (bel_call G2.out tb2)) HB.out)
  clear ta2 tb2 HN1
  go_wp2_with fail
  refine HN2.out.mono ?_
  unfold RNewQ
  rintro e w4 ⟨rb, rfl, tc2, td2⟩
  have HPL : Hid (PlX (fun k => w.heap.size ≤ k ∧ k < w2.heap.size) w w4 ta rb hs [] []) := Lib.hid (plx_new G2.out TA.out TB.out tc2 td2)
  have HWI : Hid (WrI (fun k => w.heap.size ≤ k ∧ k < w2.heap.size) w4 oo hs.length) := Lib.hid ((((WrI.of_own HO2.out).mono (fun b hb => ⟨Nat.le_trans HW1.out.size hb.1, hb.2⟩)).below TB.out).below td2)
  clear tc2 td2 HN2 HO2
  have HHM := Lib.hid HB.out
  go_wp2_with fail
  go_loopw [9] (fun i wr => ∃ k : Nat, k ≤ hs.length ∧ i = .int .i64 k ∧ Hid (PlX (fun k => w.heap.size ≤ k ∧ k < w2.heap.size) w wr ta rb hs [] []) ∧ Hid (WrI (fun k => w.heap.size ≤ k ∧ k < w2.heap.size) wr oo hs.length)) (fun i _ => hs.length - (intOf i).toNat)
  case atStart => exact ⟨0, Nat.zero_le _, rfl, HPL.out, HWI.out⟩
  case round =>
    obtain ⟨k, hk, rfl, hpl, hwi⟩ := hrel
    have hhm := HHM.out
    by_cases hkl : k < hs.length
    · obtain ⟨g, x, hoo, hT, hg, c0, cf⟩ := hwi.out.at_ hkl
      subst hoo
      have HT := Lib.hid hT
      have q0 : (k : Int) < hs.length := by omega
      have q1 := IntWalk.i64_in ((k : Int) + 1) (by omega)
      clear hT hkl
      go_wp2_with fail
      refine ⟨⟨k + 1, by omega, by go_num, hpl.out.turn ((Chg.refl _ _).set (p := ⟨g, k, none⟩) (fun _ => HT.out) _) (fun b hb => hb.1), hwi.out.set _⟩, ?_⟩
      simp [intOf]
      omega
    · have q0 : ¬ (k : Int) < hs.length := by omega
      have HP0 : Hid (PlX (fun _ => False) w wr ta rb hs [] []) := Lib.hid (hpl.out.weak (fun _ h => h.elim))
      clear hkl hpl hwi HPL HWI hk
      go_wp2_with fail
      go_loopw [10] (fun i wr => ∃ n : Nat, ∃ P : Pl, n ≤ l.length ∧ n ≤ 200 ∧ i = .int .i64 n ∧ P.length ≤ n ∧ Hid (PlX (fun _ => False) w wr ta rb hs P P)) (fun i _ => l.length - (intOf i).toNat)
      case atStart => exact ⟨0, [], Nat.zero_le _, by omega, rfl, by simp, HP0.out⟩
      case round =>
        obtain ⟨n, P, hn, hn2, rfl, hPn, hpl⟩ := hrel
        by_cases hnl : n < l.length
        · have p0 : (n : Int) < l.length := by omega
          by_cases hn3 : n < 200
          · have p1 : (n : Int) < 200 := by omega
            have p2 := IntWalk.i64_in ((n : Int) + 1) (by omega)
            obtain ⟨b, o, d, kv, vv, hao, zb, c0, c1, c2, c3, c4, c5, hk, hv, hu⟩ := IsDs.at6 ID.out hnl
            subst hao
            have HK0 := Lib.hid hk.out
            have HV0 := Lib.hid hv.out
            have HPW := Lib.hid hpl.out
            replace hk := Lib.hid (hk.out.below hpl.out.bel)
            replace hv := Lib.hid (hv.out.below hpl.out.bel)
            replace c0 := (hpl.out.bel.cell (p := ⟨b, o + n * 6, none⟩) zb).trans c0
            replace c1 := (hpl.out.bel.cell (p := ⟨b, o + n * 6 + 1, none⟩) zb).trans c1
            replace c2 := (hpl.out.bel.cell (p := ⟨b, o + n * 6 + 2, none⟩) zb).trans c2
            replace c3 := (hpl.out.bel.cell (p := ⟨b, o + n * 6 + 3, none⟩) zb).trans c3
            replace c4 := (hpl.out.bel.cell (p := ⟨b, o + n * 6 + 4, none⟩) zb).trans c4
            replace c5 := (hpl.out.bel.cell (p := ⟨b, o + n * 6 + 5, none⟩) zb).trans c5
            replace zb := Nat.lt_of_lt_of_le zb hpl.out.bel.size
            have HK := Lib.hid (hk.out.below (bel_alloc (Below.refl _ wr) (.cells #[.int .i64 d.1, kv, .int .u64 d.2.1.2.1, .bool d.2.1.2.2.1, vv, .int .i64 d.2.2] 34)))
            have HV := Lib.hid (hv.out.below (bel_alloc (Below.refl _ wr) (.cells #[.int .i64 d.1, kv, .int .u64 d.2.1.2.1, .bool d.2.1.2.2.1, vv, .int .i64 d.2.2] 34)))
            have HU := hu
            obtain ⟨ko, kc, rfl, -, -, -⟩ := hk.out.form
            obtain ⟨vo, vc, rfl, -, -, -⟩ := hv.out.form
            have HPB : Hid (PlX (fun _ => False) w (wr.alloc (.cells #[.int .i64 d.1, .slice ko d.2.1.1.length kc, .int .u64 d.2.1.2.1, .bool d.2.1.2.2.1, .slice vo d.2.1.2.2.2.length vc, .int .i64 d.2.2] 34)) ta rb hs P P) := Lib.hid (hpl.out.below (bel_alloc (Below.refl _ wr) _))
            have HNL := Lib.hid hnl
            have HN3 := Lib.hid hn3
            clear hk hv hu hnl hn3 hpl hhm hn hn2
            go_upto_block 4 with fail
            go_cut [11] (fun s wx => s = .pointer (some ⟨wr.heap.size, 0, none⟩) ∧ ∃ P2 : Pl, P2.length ≤ n + 1 ∧ PlX (fun _ => False) w wx ta rb hs P2 P2)
            case first =>
              by_cases k1 : d.1 = 1
              · have r1 : (d.1 == 1) = true := by simp [k1]
                obtain ⟨r, hr⟩ : ∃ r, getE (P.map (·.1)) (posF (P.map (·.1)) d.2.1.1 d.2.1.2.1) d.2.1.1 = r := ⟨_, rfl⟩
                have HGA := Lib.hid (sGet HPB.out.sa _ d.2.1.1 d.2.1.2.1 HK.out hr)
                have HRR := Lib.hid hr
                clear hr k1 c0 c1 c2 c3 c4 c5
                go_wp2_with fail
                refine HGA.out.mono ?_
                unfold GetP
                rintro e w5 ⟨k5, v5, rfl, ok5, ov5, hb5⟩
                obtain ⟨fo5, fc5, rfl, -, -, -, -⟩ := ok5.form
                obtain ⟨to5, tc5, rfl, -, -, -, -⟩ := ov5.form
                have d0 : w5.cell? ⟨wr.heap.size, 0, none⟩ = some (.int .i64 d.1) := (hb5.cell (p := ⟨wr.heap.size, 0, none⟩) (by simp)).trans (by go_simp)
                have d1 : w5.cell? ⟨wr.heap.size, 1, none⟩ = some (.slice ko d.2.1.1.length kc) := (hb5.cell (p := ⟨wr.heap.size, 1, none⟩) (by simp)).trans (by go_simp)
                have d2 : w5.cell? ⟨wr.heap.size, 2, none⟩ = some (.int .u64 d.2.1.2.1) := (hb5.cell (p := ⟨wr.heap.size, 2, none⟩) (by simp)).trans (by go_simp)
                have d3 : w5.cell? ⟨wr.heap.size, 3, none⟩ = some (.bool d.2.1.2.2.1) := (hb5.cell (p := ⟨wr.heap.size, 3, none⟩) (by simp)).trans (by go_simp)
                have d4 : w5.cell? ⟨wr.heap.size, 4, none⟩ = some (.slice vo d.2.1.2.2.2.length vc) := (hb5.cell (p := ⟨wr.heap.size, 4, none⟩) (by simp)).trans (by go_simp)
                have d5 : w5.cell? ⟨wr.heap.size, 5, none⟩ = some (.int .i64 d.2.2) := (hb5.cell (p := ⟨wr.heap.size, 5, none⟩) (by simp)).trans (by go_simp)
                have OK5 := Lib.hid ok5
                have OV5 := Lib.hid ov5
                have HB5 : Hid (Below (wr.alloc (.cells #[.int .i64 d.1, .slice ko d.2.1.1.length kc, .int .u64 d.2.1.2.1, .bool d.2.1.2.2.1, .slice vo d.2.1.2.2.2.length vc, .int .i64 d.2.2] 34)).heap.size (wr.alloc (.cells #[.int .i64 d.1, .slice ko d.2.1.1.length kc, .int .u64 d.2.1.2.1, .bool d.2.1.2.2.1, .slice vo d.2.1.2.2.2.length vc, .int .i64 d.2.2] 34)) w5) := Lib.hid hb5
                have zd5 : wr.heap.size < w5.heap.size := Nat.lt_of_lt_of_le (by simp) hb5.size
                obtain ⟨hv9, lv9, hr9⟩ := (HPB.out.below hb5).rr
                have HGB := Lib.hid (rget_any _ d.2.1.1 d.2.1.2.1 (hr9.below (bel_alloc (Below.refl _ w5) (.cells #[.slice fo5 r.1.1.length fc5, .int .u64 r.1.2.1, .bool r.1.2.2.1, .slice to5 r.1.2.2.2.length tc5] 32))) ((HK.out.below hb5).below (bel_alloc (Below.refl _ w5) (.cells #[.slice fo5 r.1.1.length fc5, .int .u64 r.1.2.1, .bool r.1.2.2.1, .slice to5 r.1.2.2.2.length tc5] 32))))
                rw [HRR.out] at HGB
                clear ok5 ov5 hb5 hr9 HGA
                go_wp2_with fail
                refine HGB.out.mono ?_
                unfold GetP
                rintro e w6 ⟨k6, v6, rfl, ok6, ov6, hb6⟩
                obtain ⟨fo6, fc6, rfl, -, -, -, -⟩ := ok6.form
                obtain ⟨to6, tc6, rfl, -, -, -, -⟩ := ov6.form
                have e0 : w6.cell? ⟨w5.heap.size, 0, none⟩ = some (.slice fo5 r.1.1.length fc5) := (hb6.cell (p := ⟨w5.heap.size, 0, none⟩) (by simp)).trans (by go_simp)
                have e1 : w6.cell? ⟨w5.heap.size, 1, none⟩ = some (.int .u64 r.1.2.1) := (hb6.cell (p := ⟨w5.heap.size, 1, none⟩) (by simp)).trans (by go_simp)
                have e2 : w6.cell? ⟨w5.heap.size, 2, none⟩ = some (.bool r.1.2.2.1) := (hb6.cell (p := ⟨w5.heap.size, 2, none⟩) (by simp)).trans (by go_simp)
                have e3 : w6.cell? ⟨w5.heap.size, 3, none⟩ = some (.slice to5 r.1.2.2.2.length tc5) := (hb6.cell (p := ⟨w5.heap.size, 3, none⟩) (by simp)).trans (by go_simp)
                have hb56 : Below w5.heap.size w5 (w6.alloc (.cells #[.slice fo6 r.1.1.length fc6, .int .u64 r.1.2.1, .bool r.1.2.2.1, .slice to6 r.1.2.2.2.length tc6] 32)) := bel_alloc (bel_call (bel_alloc (Below.refl _ w5) _) hb6) _
                have HB56 := Lib.hid hb56
                have ze6 : w5.heap.size < w6.heap.size := Nat.lt_of_lt_of_le (by simp) hb6.size
                have HSO := Lib.hid (sameOne_any _ _ _ _ r.1 r.1 (w6.alloc (.cells #[.slice fo6 r.1.1.length fc6, .int .u64 r.1.2.1, .bool r.1.2.2.1, .slice to6 r.1.2.2.2.length tc6] 32)) (OK5.out.below hb56).isB (OV5.out.below hb56).isB (ok6.alloc _).isB (ov6.alloc _).isB)
                rw [decide_eq_true rfl] at HSO
                clear ok6 ov6 hb6 hb56 HGB d0 d1 d2 d3 d4 d5 zd5
                go_wp2_with fail
                refine HSO.out.mono ?_
                rintro e w7 ⟨rfl, hb7⟩
                have f0 : w7.cell? ⟨w5.heap.size, 0, none⟩ = some (.slice fo5 r.1.1.length fc5) := (hb7.cell (p := ⟨w5.heap.size, 0, none⟩) (by simp; omega)).trans (by go_simp)
                have f1 : w7.cell? ⟨w5.heap.size, 1, none⟩ = some (.int .u64 r.1.2.1) := (hb7.cell (p := ⟨w5.heap.size, 1, none⟩) (by simp; omega)).trans (by go_simp)
                have f2 : w7.cell? ⟨w5.heap.size, 2, none⟩ = some (.bool r.1.2.2.1) := (hb7.cell (p := ⟨w5.heap.size, 2, none⟩) (by simp; omega)).trans (by go_simp)
                have f3 : w7.cell? ⟨w5.heap.size, 3, none⟩ = some (.slice to5 r.1.2.2.2.length tc5) := (hb7.cell (p := ⟨w5.heap.size, 3, none⟩) (by simp; omega)).trans (by go_simp)
                have zf7 : w5.heap.size < w7.heap.size := Nat.lt_of_lt_of_le (by simp; omega) hb7.size
                have hb57 : Below w5.heap.size w5 w7 := bel_call HB56.out hb7
                have HMK := Lib.hid (mark_any (fun b => (wr.alloc (.cells #[.int .i64 d.1, .slice ko d.2.1.1.length kc, .int .u64 d.2.1.2.1, .bool d.2.1.2.2.1, .slice vo d.2.1.2.2.2.length vc, .int .i64 d.2.2] 34)).heap.size ≤ b ∧ b < w7.heap.size) _ _ r.1.2.1 r.1.2.2.1 w7 (WrS.of_own (OK5.out.below hb57)) (WrS.of_own (OV5.out.below hb57)) (OK5.out.below hb57).lt (OV5.out.below hb57).lt (fun b hb => hb.2))
                have HPF : Hid (PlX (fun b => (wr.alloc (.cells #[.int .i64 d.1, .slice ko d.2.1.1.length kc, .int .u64 d.2.1.2.1, .bool d.2.1.2.2.1, .slice vo d.2.1.2.2.2.length vc, .int .i64 d.2.2] 34)).heap.size ≤ b) w w7 ta rb hs P P) := Lib.hid (HPB.out.fresh (bel_call HB5.out hb57))
                have HGE : Hid (w.heap.size ≤ (wr.alloc (.cells #[.int .i64 d.1, .slice ko d.2.1.1.length kc, .int .u64 d.2.1.2.1, .bool d.2.1.2.2.1, .slice vo d.2.1.2.2.2.length vc, .int .i64 d.2.2] 34)).heap.size) := Lib.hid HPB.out.bel.size
                clear hb7 hb57 HSO e0 e1 e2 e3 ze6
                go_wp2_with fail
                refine HMK.out.mono ?_
                unfold MarkP
                rintro e w8 ⟨rfl, c8, -⟩
                have HP8 : Hid (PlX (fun _ => False) w w8 ta rb hs P P) := Lib.hid ((HPF.out.turn (c8.mono fun b _ hb => hb.1) (fun b hb => Nat.le_trans HGE.out hb)).weak (fun _ h => h.elim))
                clear c8
                go_wp2_with fail
                all_goals
                  go_meet
                  exact ⟨rfl, P, by omega, HP8.out⟩
              · have r1 : (d.1 == 1) = false := by simp [k1]
                by_cases k2 : d.1 = 2
                · have r2 : (d.1 == 2) = true := by simp [k2]
                  obtain ⟨m, hm, hm1, hm2⟩ : ∃ m : Nat, (if 1 < if 300 < d.2.2 then 300 else d.2.2 then if 300 < d.2.2 then 300 else d.2.2 else 1) = (m : Int) ∧ 1 ≤ m ∧ m ≤ 300 := by
                    by_cases h1 : 300 < d.2.2
                    · exact ⟨300, by rw [if_pos h1, if_pos (by omega)]; rfl, by omega, by omega⟩
                    · by_cases h2 : 1 < d.2.2
                      · exact ⟨d.2.2.toNat, by rw [if_neg h1, if_pos h2]; omega, by omega, by omega⟩
                      · exact ⟨1, by rw [if_neg h1, if_neg h2]; rfl, by omega, by omega⟩
                  obtain ⟨L, hL⟩ : ∃ L, fromE d.2.1.1 P = L := ⟨_, rfl⟩
                  have hLl : L.length ≤ 200 := by
                    have l1 := fromE_le d.2.1.1 P P.length
                    have l2 := HN3.out
                    rw [List.take_length, hL] at l1
                    omega
                  have HGA := Lib.hid (gScan HPB.out.sa _ d.2.1.1 (m : Int) HK.out HU.out.2.1.1 ⟨by omega, by omega⟩)
                  rw [hL, Int.toNat_natCast] at HGA
                  have HLL := Lib.hid hL
                  have HLB := Lib.hid hLl
                  have HM := Lib.hid hm
                  have HM1 := Lib.hid hm1
                  have HM2 := Lib.hid hm2
                  clear hL k1 k2 c0 c1 c2 c3 c4 c5 hm
                  go_upto_region 31 with fail
                  rw [HM.out]
                  generalize (if 300 < d.2.2 then (300 : Int) else d.2.2) = q9
                  go_wp2_with fail
                  refine HGA.out.mono ?_
                  unfold LevelP
                  rintro e w5 ⟨v5, rfl, o5, hb5⟩
                  obtain ⟨ao5, cap5, rfl, -, -, -⟩ := o5.isEs.form
                  have d0 : w5.cell? ⟨wr.heap.size, 0, none⟩ = some (.int .i64 d.1) := (hb5.cell (p := ⟨wr.heap.size, 0, none⟩) (by simp)).trans (by go_simp)
                  have d1 : w5.cell? ⟨wr.heap.size, 1, none⟩ = some (.slice ko d.2.1.1.length kc) := (hb5.cell (p := ⟨wr.heap.size, 1, none⟩) (by simp)).trans (by go_simp)
                  have d2 : w5.cell? ⟨wr.heap.size, 2, none⟩ = some (.int .u64 d.2.1.2.1) := (hb5.cell (p := ⟨wr.heap.size, 2, none⟩) (by simp)).trans (by go_simp)
                  have d3 : w5.cell? ⟨wr.heap.size, 3, none⟩ = some (.bool d.2.1.2.2.1) := (hb5.cell (p := ⟨wr.heap.size, 3, none⟩) (by simp)).trans (by go_simp)
                  have d4 : w5.cell? ⟨wr.heap.size, 4, none⟩ = some (.slice vo d.2.1.2.2.2.length vc) := (hb5.cell (p := ⟨wr.heap.size, 4, none⟩) (by simp)).trans (by go_simp)
                  have d5 : w5.cell? ⟨wr.heap.size, 5, none⟩ = some (.int .i64 d.2.2) := (hb5.cell (p := ⟨wr.heap.size, 5, none⟩) (by simp)).trans (by go_simp)
                  have O5 := Lib.hid o5
                  have zd5 : wr.heap.size < w5.heap.size := Nat.lt_of_lt_of_le (by simp) hb5.size
                  have HP5 := Lib.hid (HPB.out.below hb5)
                  obtain ⟨hv9, lv9, hr9⟩ := (HPB.out.below hb5).rr
                  have HGB := Lib.hid (rscan_any _ d.2.1.1 hr9 (HK.out.below hb5))
                  rw [HLL.out] at HGB
                  clear o5 hb5 hr9 HGA hm1 hm2
                  go_wp2_with fail
                  refine HGB.out.mono ?_
                  unfold LevelP
                  rintro e w6 ⟨v6, rfl, o6, hb6⟩
                  obtain ⟨ao6, cap6, rfl, -, -, -⟩ := o6.isEs.form
                  have O6 := Lib.hid o6.isEs
                  have O56 : Hid (IsEs w6 (.slice ao5 (min m L.length) cap5) (L.take m)) := Lib.hid (by
                    have o9 := (O5.out.below hb6).isEs
                    rwa [List.length_take] at o9)
                  have HP6 := Lib.hid (HP5.out.below hb6)
                  have hcp : L.length ≤ cap6 := by
                    obtain ⟨a8, c8, e8, q8, -⟩ := o6.isEs.form
                    cases e8
                    exact q8
                  clear o6 hb6 HGB d0 d1 d2 d3 d4 d5 zd5
                  by_cases hml : m < L.length
                  · have q5 : (m : Int) < L.length := by omega
                    have q6 : (0 : Int) ≤ m := by omega
                    have q7 : (m : Int) ≤ cap6 := by omega
                    have HSM := Lib.hid (same_any _ _ _ _ w6 O56.out (IsL.pre O6.out (Nat.le_of_lt hml) ao6 (.inl rfl)))
                    rw [decide_eq_true rfl] at HSM
                    clear hml
                    go_wp2_with fail
                    refine HSM.out.mono ?_
                    rintro e w7 ⟨rfl, hb7⟩
                    have HP7 := Lib.hid (HP6.out.below hb7)
                    clear hb7 HSM
                    go_wp2_with fail
                    all_goals
                      go_meet
                      exact ⟨rfl, P, by omega, HP7.out⟩
                  · have q5 : ¬ (m : Int) < L.length := by omega
                    have q7 : (L.length : Int) ≤ cap6 := by omega
                    have HSM := Lib.hid (same_any _ _ _ _ w6 O56.out O6.out)
                    rw [decide_eq_true (List.take_of_length_le (by omega))] at HSM
                    clear hml
                    go_wp2_with fail
                    refine HSM.out.mono ?_
                    rintro e w7 ⟨rfl, hb7⟩
                    have HP7 := Lib.hid (HP6.out.below hb7)
                    clear hb7 HSM
                    go_wp2_with fail
                    all_goals
                      go_meet
                      exact ⟨rfl, P, by omega, HP7.out⟩
                · have r2 : (d.1 == 2) = false := by simp [k2]
                  by_cases k3 : d.1 = 3
                  · have r3 : (d.1 == 3) = true := by simp [k3]
                    obtain ⟨wo, hwo⟩ : ∃ wo, wo = wr := ⟨_, rfl⟩
                    subst wr
                    obtain ⟨L, hL⟩ : ∃ L, levelF P d.2.2 = L := ⟨_, rfl⟩
                    have hLl : L.length ≤ 200 := by
                      have l1 := levelF_len P d.2.2
                      have l2 := HN3.out
                      rw [hL] at l1
                      omega
                    have HGA := Lib.hid (sLevel HPB.out.sa d.2.2 hL)
                    have HLL := Lib.hid hL
                    have HLB := Lib.hid hLl
                    clear hL k1 k2 k3 c0 c1 c2 c3 c4 c5
                    go_wp2_with fail
                    refine HGA.out.mono ?_
                    unfold LevelP
                    rintro e w5 ⟨v5, rfl, o5, hb5⟩
                    obtain ⟨ao5, cap5, rfl, -, -, -⟩ := o5.isEs.form
                    have d0 : w5.cell? ⟨wo.heap.size, 0, none⟩ = some (.int .i64 d.1) := (hb5.cell (p := ⟨wo.heap.size, 0, none⟩) (by simp)).trans (by go_simp)
                    have d1 : w5.cell? ⟨wo.heap.size, 1, none⟩ = some (.slice ko d.2.1.1.length kc) := (hb5.cell (p := ⟨wo.heap.size, 1, none⟩) (by simp)).trans (by go_simp)
                    have d2 : w5.cell? ⟨wo.heap.size, 2, none⟩ = some (.int .u64 d.2.1.2.1) := (hb5.cell (p := ⟨wo.heap.size, 2, none⟩) (by simp)).trans (by go_simp)
                    have d3 : w5.cell? ⟨wo.heap.size, 3, none⟩ = some (.bool d.2.1.2.2.1) := (hb5.cell (p := ⟨wo.heap.size, 3, none⟩) (by simp)).trans (by go_simp)
                    have d4 : w5.cell? ⟨wo.heap.size, 4, none⟩ = some (.slice vo d.2.1.2.2.2.length vc) := (hb5.cell (p := ⟨wo.heap.size, 4, none⟩) (by simp)).trans (by go_simp)
                    have d5 : w5.cell? ⟨wo.heap.size, 5, none⟩ = some (.int .i64 d.2.2) := (hb5.cell (p := ⟨wo.heap.size, 5, none⟩) (by simp)).trans (by go_simp)
                    have O5 := Lib.hid o5
                    have HB5 : Hid (Below (wo.alloc (.cells #[.int .i64 d.1, .slice ko d.2.1.1.length kc, .int .u64 d.2.1.2.1, .bool d.2.1.2.2.1, .slice vo d.2.1.2.2.2.length vc, .int .i64 d.2.2] 34)).heap.size (wo.alloc (.cells #[.int .i64 d.1, .slice ko d.2.1.1.length kc, .int .u64 d.2.1.2.1, .bool d.2.1.2.2.1, .slice vo d.2.1.2.2.2.length vc, .int .i64 d.2.2] 34)) w5) := Lib.hid hb5
                    have zd5 : wo.heap.size < w5.heap.size := Nat.lt_of_lt_of_le (by simp) hb5.size
                    obtain ⟨hv9, lv9, hr9⟩ := (HPB.out.below hb5).rr
                    have HGB := Lib.hid (rlevel_any d.2.2 hr9)
                    rw [HLL.out] at HGB
                    clear o5 hb5 hr9 HGA
                    go_wp2_with fail
                    refine HGB.out.mono ?_
                    unfold LevelP
                    rintro e w6 ⟨v6, rfl, o6, hb6⟩
                    obtain ⟨ao6, cap6, rfl, -, -, -⟩ := o6.isEs.form
                    have HSM := Lib.hid (same_any _ _ _ _ w6 (O5.out.below hb6).isEs o6.isEs)
                    rw [decide_eq_true rfl] at HSM
                    have HB6 : Hid (Below w5.heap.size w5 w6) := Lib.hid hb6
                    clear o6 hb6 HGB d0 d1 d2 d3 d4 d5 zd5
                    go_wp2_with fail
                    refine HSM.out.mono ?_
                    rintro e w7 ⟨rfl, hb7⟩
                    have hb57 : Below w5.heap.size w5 w7 := bel_call HB6.out hb7
                    have O7 := Lib.hid (O5.out.below hb57)
                    have HPF : Hid (PlX (fun b => (wo.alloc (.cells #[.int .i64 d.1, .slice ko d.2.1.1.length kc, .int .u64 d.2.1.2.1, .bool d.2.1.2.2.1, .slice vo d.2.1.2.2.2.length vc, .int .i64 d.2.2] 34)).heap.size ≤ b) w w7 ta rb hs P P) := Lib.hid (HPB.out.fresh (bel_call HB5.out hb57))
                    have HGE : Hid (w.heap.size ≤ (wo.alloc (.cells #[.int .i64 d.1, .slice ko d.2.1.1.length kc, .int .u64 d.2.1.2.1, .bool d.2.1.2.2.1, .slice vo d.2.1.2.2.2.length vc, .int .i64 d.2.2] 34)).heap.size) := Lib.hid HPB.out.bel.size
                    have ZW : Hid ((wo.alloc (.cells #[.int .i64 d.1, .slice ko d.2.1.1.length kc, .int .u64 d.2.1.2.1, .bool d.2.1.2.2.1, .slice vo d.2.1.2.2.2.length vc, .int .i64 d.2.2] 34)).heap.size ≤ w5.heap.size) := Lib.hid HB5.out.size
                    clear hb7 hb57 HSM HB5 HB6 O5
                    go_wp2_with fail
                    go_loopw [24] (fun i wx => ∃ k : Nat, k ≤ L.length ∧ i = .int .i64 k ∧ Hid (Marks (fun b => (wo.alloc (.cells #[.int .i64 d.1, .slice ko d.2.1.1.length kc, .int .u64 d.2.1.2.1, .bool d.2.1.2.2.1, .slice vo d.2.1.2.2.2.length vc, .int .i64 d.2.2] 34)).heap.size ≤ b ∧ ∃ cur, w7.heap[b]? = some (.cells cur 5 (0, 0))) w7 wx)) (fun i _ => L.length - (intOf i).toNat)
                    case atStart => exact ⟨0, Nat.zero_le _, rfl, Chg.refl _ _, fun u hu => hu⟩
                    case round =>
                      obtain ⟨k9, hk9, rfl, hmk⟩ := hrel
                      have hLl := HLB.out
                      by_cases hkl : k9 < L.length
                      · obtain ⟨g, o9, r9, hao, hg9, ht9, e0', e1', e2', e3', hg⟩ := OwnEs.at4 O7.out hkl
                        subst hao
                        have s0 := hmk.out.1.size
                        have e0 := (hmk.out.1.cell (o := o9 + k9 * 4) hg9 (fun h => ht9 h.2)).trans e0'
                        have e1 := (hmk.out.1.cell (o := o9 + k9 * 4 + 1) hg9 (fun h => ht9 h.2)).trans e1'
                        have e2 := (hmk.out.1.cell (o := o9 + k9 * 4 + 2) hg9 (fun h => ht9 h.2)).trans e2'
                        have e3 := (hmk.out.1.cell (o := o9 + k9 * 4 + 3) hg9 (fun h => ht9 h.2)).trans e3'
                        have zg : g < wr.heap.size := Nat.lt_of_lt_of_le hg9 s0
                        have HMK := Lib.hid (mark_any (fun b => (wo.alloc (.cells #[.int .i64 d.1, .slice ko d.2.1.1.length kc, .int .u64 d.2.1.2.1, .bool d.2.1.2.2.1, .slice vo d.2.1.2.2.2.length vc, .int .i64 d.2.2] 34)).heap.size ≤ b ∧ ∃ cur, w7.heap[b]? = some (.cells cur 5 (0, 0))) _ _ r9.1.2.1 r9.1.2.2.1 wr (hmk.out.2 _ (WrS.of_own hg.out.1)) (hmk.out.2 _ (WrS.of_own hg.out.2.1)) (fun b hb => ⟨(hg.out.1.lt b hb).1, hg.out.1.typed b hb⟩) (fun b hb => ⟨(hg.out.2.1.lt b hb).1, hg.out.2.1.typed b hb⟩) (fun b ⟨_, cur, hb⟩ => Nat.lt_of_lt_of_le (Array.getElem?_eq_some_iff.1 hb).1 s0))
                        obtain ⟨fo9, fc9, ef9, -, -, -, -⟩ := hg.out.1.form
                        obtain ⟨to9, tc9, et9, -, -, -, -⟩ := hg.out.2.1.form
                        rw [ef9] at HMK e0
                        rw [et9] at HMK e3
                        have p0 : (k9 : Int) < L.length := by omega
                        have p3 := IntWalk.i64_in ((k9 : Int) + 1) (by omega)
                        clear e0' e1' e2' e3' hg ef9 et9 ht9 hkl
                        go_wp2_with fail
                        refine HMK.out.mono ?_
                        unfold MarkP
                        rintro e wz ⟨rfl, cz, hz⟩
                        have HMZ : Hid (Marks (fun b => (wo.alloc (.cells #[.int .i64 d.1, .slice ko d.2.1.1.length kc, .int .u64 d.2.1.2.1, .bool d.2.1.2.2.1, .slice vo d.2.1.2.2.2.length vc, .int .i64 d.2.2] 34)).heap.size ≤ b ∧ ∃ cur, w7.heap[b]? = some (.cells cur 5 (0, 0))) w7 wz) := Lib.hid ⟨hmk.out.1.trans cz, fun u hu => hz u (hmk.out.2 u hu)⟩
                        clear cz hz e0 e1 e2 e3
                        go_wp2_with fail
                        refine ⟨⟨k9 + 1, by omega, by go_num, HMZ.out⟩, ?_⟩
                        simp [intOf]
                        omega
                      · have p0 : ¬ (k9 : Int) < L.length := by omega
                        have HP8 : Hid (PlX (fun _ => False) w wr ta rb hs P P) := Lib.hid ((HPF.out.turn (hmk.out.1.mono fun b _ hb => hb.1) (fun b hb => Nat.le_trans HGE.out hb)).weak (fun _ h => h.elim))
                        clear hkl
                        go_wp2_with fail
                        all_goals
                          go_meet
                          exact ⟨rfl, P, by omega, HP8.out⟩
                  · have r3 : (d.1 == 3) = false := by simp [k3]
                    by_cases k4 : d.1 = 4
                    · have r4 : (d.1 == 4) = true := by simp [k4]
                      obtain ⟨r, hr⟩ : ∃ r, (lvl (P.map (·.2)) (posF (P.map (·.1)) d.2.1.1 d.2.1.2.1) 12).1 = r := ⟨_, rfl⟩
                      have HGA := Lib.hid (sSteps HPB.out.sa _ d.2.1.1 d.2.1.2.1 HK.out hr)
                      have HRR := Lib.hid hr
                      clear hr k1 k2 k3 k4 c0 c1 c2 c3 c4 c5
                      go_wp2_with fail
                      refine HGA.out.mono ?_
                      rintro e w5 ⟨rfl, hb5⟩
                      have d0 : w5.cell? ⟨wr.heap.size, 0, none⟩ = some (.int .i64 d.1) := (hb5.cell (p := ⟨wr.heap.size, 0, none⟩) (by simp)).trans (by go_simp)
                      have d1 : w5.cell? ⟨wr.heap.size, 1, none⟩ = some (.slice ko d.2.1.1.length kc) := (hb5.cell (p := ⟨wr.heap.size, 1, none⟩) (by simp)).trans (by go_simp)
                      have d2 : w5.cell? ⟨wr.heap.size, 2, none⟩ = some (.int .u64 d.2.1.2.1) := (hb5.cell (p := ⟨wr.heap.size, 2, none⟩) (by simp)).trans (by go_simp)
                      have d3 : w5.cell? ⟨wr.heap.size, 3, none⟩ = some (.bool d.2.1.2.2.1) := (hb5.cell (p := ⟨wr.heap.size, 3, none⟩) (by simp)).trans (by go_simp)
                      have d4 : w5.cell? ⟨wr.heap.size, 4, none⟩ = some (.slice vo d.2.1.2.2.2.length vc) := (hb5.cell (p := ⟨wr.heap.size, 4, none⟩) (by simp)).trans (by go_simp)
                      have d5 : w5.cell? ⟨wr.heap.size, 5, none⟩ = some (.int .i64 d.2.2) := (hb5.cell (p := ⟨wr.heap.size, 5, none⟩) (by simp)).trans (by go_simp)
                      have HP5 := Lib.hid (HPB.out.below hb5)
                      have zd5 : wr.heap.size < w5.heap.size := Nat.lt_of_lt_of_le (by simp) hb5.size
                      obtain ⟨hv9, lv9, hr9⟩ := (HPB.out.below hb5).rr
                      have HGB := Lib.hid (rsteps_any _ d.2.1.1 d.2.1.2.1 hr9 (HK.out.below hb5))
                      rw [HRR.out] at HGB
                      clear hb5 hr9 HGA
                      go_wp2_with fail
                      refine HGB.out.mono ?_
                      rintro e w6 ⟨rfl, hb6⟩
                      have HP6 := Lib.hid (HP5.out.below hb6)
                      clear hb6 HGB
                      go_wp2_with fail
                      all_goals
                        go_meet
                        exact ⟨rfl, P, by omega, HP6.out⟩
                    · have r4 : (d.1 == 4) = false := by simp [k4]
                      have HCP := Lib.hid (copy_any _ _ d.2.1 (wr.alloc (.cells #[.int .i64 d.1, .slice ko d.2.1.1.length kc, .int .u64 d.2.1.2.1, .bool d.2.1.2.2.1, .slice vo d.2.1.2.2.2.length vc, .int .i64 d.2.2] 34)) HK.out HV.out HU.out.2.1)
                      clear k1 k2 k3 k4 c0 c1 c2 c3 c4 c5
                      go_wp2_with fail
                      refine HCP.out.mono ?_
                      unfold OwnP
                      rintro e w5 ⟨k5, v5, rfl, ok5, ov5, hb5⟩
                      obtain ⟨fo5, fc5, rfl, -, -, -, -⟩ := ok5.form
                      obtain ⟨to5, tc5, rfl, -, -, -, -⟩ := ov5.form
                      have zd5 : wr.heap.size < w5.heap.size := Nat.lt_of_lt_of_le (by simp) hb5.size
                      have za5 : w5.heap.size < (w5.alloc (.cells #[.slice fo5 d.2.1.1.length fc5, .int .u64 d.2.1.2.1, .bool d.2.1.2.2.1, .slice to5 d.2.1.2.2.2.length tc5] 32)).heap.size := by simp
                      have d0 : (w5.alloc (.cells #[.slice fo5 d.2.1.1.length fc5, .int .u64 d.2.1.2.1, .bool d.2.1.2.2.1, .slice to5 d.2.1.2.2.2.length tc5] 32)).cell? ⟨wr.heap.size, 0, none⟩ = some (.int .i64 d.1) := (((Below.refl _ w5).alloc (Nat.le_refl _) (.cells #[.slice fo5 d.2.1.1.length fc5, .int .u64 d.2.1.2.1, .bool d.2.1.2.2.1, .slice to5 d.2.1.2.2.2.length tc5] 32)).cell (p := ⟨wr.heap.size, 0, none⟩) zd5).trans ((hb5.cell (p := ⟨wr.heap.size, 0, none⟩) (by simp)).trans (by go_simp))
                      have d1 : (w5.alloc (.cells #[.slice fo5 d.2.1.1.length fc5, .int .u64 d.2.1.2.1, .bool d.2.1.2.2.1, .slice to5 d.2.1.2.2.2.length tc5] 32)).cell? ⟨wr.heap.size, 1, none⟩ = some (.slice ko d.2.1.1.length kc) := (((Below.refl _ w5).alloc (Nat.le_refl _) (.cells #[.slice fo5 d.2.1.1.length fc5, .int .u64 d.2.1.2.1, .bool d.2.1.2.2.1, .slice to5 d.2.1.2.2.2.length tc5] 32)).cell (p := ⟨wr.heap.size, 1, none⟩) zd5).trans ((hb5.cell (p := ⟨wr.heap.size, 1, none⟩) (by simp)).trans (by go_simp))
                      have d2 : (w5.alloc (.cells #[.slice fo5 d.2.1.1.length fc5, .int .u64 d.2.1.2.1, .bool d.2.1.2.2.1, .slice to5 d.2.1.2.2.2.length tc5] 32)).cell? ⟨wr.heap.size, 2, none⟩ = some (.int .u64 d.2.1.2.1) := (((Below.refl _ w5).alloc (Nat.le_refl _) (.cells #[.slice fo5 d.2.1.1.length fc5, .int .u64 d.2.1.2.1, .bool d.2.1.2.2.1, .slice to5 d.2.1.2.2.2.length tc5] 32)).cell (p := ⟨wr.heap.size, 2, none⟩) zd5).trans ((hb5.cell (p := ⟨wr.heap.size, 2, none⟩) (by simp)).trans (by go_simp))
                      have d3 : (w5.alloc (.cells #[.slice fo5 d.2.1.1.length fc5, .int .u64 d.2.1.2.1, .bool d.2.1.2.2.1, .slice to5 d.2.1.2.2.2.length tc5] 32)).cell? ⟨wr.heap.size, 3, none⟩ = some (.bool d.2.1.2.2.1) := (((Below.refl _ w5).alloc (Nat.le_refl _) (.cells #[.slice fo5 d.2.1.1.length fc5, .int .u64 d.2.1.2.1, .bool d.2.1.2.2.1, .slice to5 d.2.1.2.2.2.length tc5] 32)).cell (p := ⟨wr.heap.size, 3, none⟩) zd5).trans ((hb5.cell (p := ⟨wr.heap.size, 3, none⟩) (by simp)).trans (by go_simp))
                      have d4 : (w5.alloc (.cells #[.slice fo5 d.2.1.1.length fc5, .int .u64 d.2.1.2.1, .bool d.2.1.2.2.1, .slice to5 d.2.1.2.2.2.length tc5] 32)).cell? ⟨wr.heap.size, 4, none⟩ = some (.slice vo d.2.1.2.2.2.length vc) := (((Below.refl _ w5).alloc (Nat.le_refl _) (.cells #[.slice fo5 d.2.1.1.length fc5, .int .u64 d.2.1.2.1, .bool d.2.1.2.2.1, .slice to5 d.2.1.2.2.2.length tc5] 32)).cell (p := ⟨wr.heap.size, 4, none⟩) zd5).trans ((hb5.cell (p := ⟨wr.heap.size, 4, none⟩) (by simp)).trans (by go_simp))
                      have d5 : (w5.alloc (.cells #[.slice fo5 d.2.1.1.length fc5, .int .u64 d.2.1.2.1, .bool d.2.1.2.2.1, .slice to5 d.2.1.2.2.2.length tc5] 32)).cell? ⟨wr.heap.size, 5, none⟩ = some (.int .i64 d.2.2) := (((Below.refl _ w5).alloc (Nat.le_refl _) (.cells #[.slice fo5 d.2.1.1.length fc5, .int .u64 d.2.1.2.1, .bool d.2.1.2.2.1, .slice to5 d.2.1.2.2.2.length tc5] 32)).cell (p := ⟨wr.heap.size, 5, none⟩) zd5).trans ((hb5.cell (p := ⟨wr.heap.size, 5, none⟩) (by simp)).trans (by go_simp))
                      have ZD := Lib.hid zd5
                      have OK5 := Lib.hid (ok5.alloc (.cells #[.slice fo5 d.2.1.1.length fc5, .int .u64 d.2.1.2.1, .bool d.2.1.2.2.1, .slice to5 d.2.1.2.2.2.length tc5] 32))
                      have OV5 := Lib.hid (ov5.alloc (.cells #[.slice fo5 d.2.1.1.length fc5, .int .u64 d.2.1.2.1, .bool d.2.1.2.2.1, .slice to5 d.2.1.2.2.2.length tc5] 32))
                      have HB5 : Hid (Below wr.heap.size wr (w5.alloc (.cells #[.slice fo5 d.2.1.1.length fc5, .int .u64 d.2.1.2.1, .bool d.2.1.2.2.1, .slice to5 d.2.1.2.2.2.length tc5] 32))) := Lib.hid (bel_call (bel_alloc (Below.refl _ wr) _) (bel_alloc hb5 _))
                      have HPF : Hid (PlX (fun b => wr.heap.size ≤ b ∧ b < (w5.alloc (.cells #[.slice fo5 d.2.1.1.length fc5, .int .u64 d.2.1.2.1, .bool d.2.1.2.2.1, .slice to5 d.2.1.2.2.2.length tc5] 32)).heap.size) w (w5.alloc (.cells #[.slice fo5 d.2.1.1.length fc5, .int .u64 d.2.1.2.1, .bool d.2.1.2.2.1, .slice to5 d.2.1.2.2.2.length tc5] 32)) ta rb hs P P) := Lib.hid ((HPW.out.fresh HB5.out).weak (fun b hb => hb.1))
                      have HPA := Lib.hid (HPF.out.putA (fun b hb => hb.2) _ _ d.2.1 OK5.out.isB OV5.out.isB HU.out.1 (by omega))
                      clear ok5 ov5 hb5 HCP
                      go_wp2_with fail
                      refine HPA.out.mono ?_
                      rintro e w6 ⟨rfl, hp6, g6⟩
                      have e0 : w6.cell? ⟨wr.heap.size, 0, none⟩ = some (.int .i64 d.1) := (g6.cell (b := wr.heap.size) (o := 0) (by simp; omega) (fun h => h ⟨Nat.le_refl _, by simp; omega⟩)).trans d0
                      have e1 : w6.cell? ⟨wr.heap.size, 1, none⟩ = some (.slice ko d.2.1.1.length kc) := (g6.cell (b := wr.heap.size) (o := 1) (by simp; omega) (fun h => h ⟨Nat.le_refl _, by simp; omega⟩)).trans d1
                      have e2 : w6.cell? ⟨wr.heap.size, 2, none⟩ = some (.int .u64 d.2.1.2.1) := (g6.cell (b := wr.heap.size) (o := 2) (by simp; omega) (fun h => h ⟨Nat.le_refl _, by simp; omega⟩)).trans d2
                      have e3 : w6.cell? ⟨wr.heap.size, 3, none⟩ = some (.bool d.2.1.2.2.1) := (g6.cell (b := wr.heap.size) (o := 3) (by simp; omega) (fun h => h ⟨Nat.le_refl _, by simp; omega⟩)).trans d3
                      have e4 : w6.cell? ⟨wr.heap.size, 4, none⟩ = some (.slice vo d.2.1.2.2.2.length vc) := (g6.cell (b := wr.heap.size) (o := 4) (by simp; omega) (fun h => h ⟨Nat.le_refl _, by simp; omega⟩)).trans d4
                      have e5 : w6.cell? ⟨wr.heap.size, 5, none⟩ = some (.int .i64 d.2.2) := (g6.cell (b := wr.heap.size) (o := 5) (by simp; omega) (fun h => h ⟨Nat.le_refl _, by simp; omega⟩)).trans d5
                      have f0 : w6.cell? ⟨w5.heap.size, 0, none⟩ = some (.slice fo5 d.2.1.1.length fc5) := (g6.cell (b := w5.heap.size) (o := 0) za5 (fun h => h ⟨Nat.le_of_lt ZD.out, za5⟩)).trans (by go_simp)
                      have f1 : w6.cell? ⟨w5.heap.size, 1, none⟩ = some (.int .u64 d.2.1.2.1) := (g6.cell (b := w5.heap.size) (o := 1) za5 (fun h => h ⟨Nat.le_of_lt ZD.out, za5⟩)).trans (by go_simp)
                      have f2 : w6.cell? ⟨w5.heap.size, 2, none⟩ = some (.bool d.2.1.2.2.1) := (g6.cell (b := w5.heap.size) (o := 2) za5 (fun h => h ⟨Nat.le_of_lt ZD.out, za5⟩)).trans (by go_simp)
                      have f3 : w6.cell? ⟨w5.heap.size, 3, none⟩ = some (.slice to5 d.2.1.2.2.2.length tc5) := (g6.cell (b := w5.heap.size) (o := 3) za5 (fun h => h ⟨Nat.le_of_lt ZD.out, za5⟩)).trans (by go_simp)
                      have ze6 : wr.heap.size < w6.heap.size := Nat.lt_of_lt_of_le (Nat.lt_of_lt_of_le zd5 (Nat.le_of_lt za5)) g6.size
                      have zf6 : w5.heap.size < w6.heap.size := Nat.lt_of_lt_of_le za5 g6.size
                      have in5 : ∀ b, (wr.alloc (.cells #[.int .i64 d.1, .slice ko d.2.1.1.length kc, .int .u64 d.2.1.2.1, .bool d.2.1.2.2.1, .slice vo d.2.1.2.2.2.length vc, .int .i64 d.2.2] 34)).heap.size ≤ b ∧ b < (w5.alloc (.cells #[.slice fo5 d.2.1.1.length fc5, .int .u64 d.2.1.2.1, .bool d.2.1.2.2.1, .slice to5 d.2.1.2.2.2.length tc5] 32)).heap.size → wr.heap.size ≤ b ∧ b < (w5.alloc (.cells #[.slice fo5 d.2.1.1.length fc5, .int .u64 d.2.1.2.1, .bool d.2.1.2.2.1, .slice to5 d.2.1.2.2.2.length tc5] 32)).heap.size := fun b hb => ⟨Nat.le_trans (by simp) hb.1, hb.2⟩
                      have LK : Hid (∀ b, (Value.slice fo5 d.2.1.1.length fc5).ownBlock = some b → wr.heap.size ≤ b ∧ b < (w5.alloc (.cells #[.slice fo5 d.2.1.1.length fc5, .int .u64 d.2.1.2.1, .bool d.2.1.2.2.1, .slice to5 d.2.1.2.2.2.length tc5] 32)).heap.size) := Lib.hid (fun b hb => in5 b (OK5.out.lt b hb))
                      have LV : Hid (∀ b, (Value.slice to5 d.2.1.2.2.2.length tc5).ownBlock = some b → wr.heap.size ≤ b ∧ b < (w5.alloc (.cells #[.slice fo5 d.2.1.1.length fc5, .int .u64 d.2.1.2.1, .bool d.2.1.2.2.1, .slice to5 d.2.1.2.2.2.length tc5] 32)).heap.size) := Lib.hid (fun b hb => in5 b (OV5.out.lt b hb))
                      have OK6 := Lib.hid (g6.ownS OK5.out (fun b hb h => h (in5 b (OK5.out.lt b hb))))
                      have OV6 := Lib.hid (g6.ownS OV5.out (fun b hb h => h (in5 b (OV5.out.lt b hb))))
                      have HPQ := Lib.hid (hp6.putB (fun b hb => Nat.lt_of_lt_of_le hb.2 g6.size) _ _ d.2.1 (HK0.out.below hp6.bel) (HV0.out.below hp6.bel) HU.out.1 (by omega))
                      have IN5 := Lib.hid in5
                      have G6 := Lib.hid g6.size
                      clear hp6 g6 d0 d1 d2 d3 d4 d5 in5 HPA OK5 OV5
                      go_wp2_with fail
                      refine HPQ.out.mono ?_
                      rintro e w7 ⟨rfl, hp7, g7⟩
                      have h0 : w7.cell? ⟨w5.heap.size, 0, none⟩ = some (.slice fo5 d.2.1.1.length fc5) := (g7.cell (b := w5.heap.size) (o := 0) zf6 (fun h => h ⟨Nat.le_of_lt ZD.out, za5⟩)).trans f0
                      have h1 : w7.cell? ⟨w5.heap.size, 1, none⟩ = some (.int .u64 d.2.1.2.1) := (g7.cell (b := w5.heap.size) (o := 1) zf6 (fun h => h ⟨Nat.le_of_lt ZD.out, za5⟩)).trans f1
                      have h2 : w7.cell? ⟨w5.heap.size, 2, none⟩ = some (.bool d.2.1.2.2.1) := (g7.cell (b := w5.heap.size) (o := 2) zf6 (fun h => h ⟨Nat.le_of_lt ZD.out, za5⟩)).trans f2
                      have h3 : w7.cell? ⟨w5.heap.size, 3, none⟩ = some (.slice to5 d.2.1.2.2.2.length tc5) := (g7.cell (b := w5.heap.size) (o := 3) zf6 (fun h => h ⟨Nat.le_of_lt ZD.out, za5⟩)).trans f3
                      have zf7 : w5.heap.size < w7.heap.size := Nat.lt_of_lt_of_le zf6 g7.size
                      have OK7 := g7.ownS OK6.out (fun b hb h => h (LK.out b hb))
                      have OV7 := g7.ownS OV6.out (fun b hb h => h (LV.out b hb))
                      have HMK := Lib.hid (mark_any (fun b => wr.heap.size ≤ b ∧ b < (w5.alloc (.cells #[.slice fo5 d.2.1.1.length fc5, .int .u64 d.2.1.2.1, .bool d.2.1.2.2.1, .slice to5 d.2.1.2.2.2.length tc5] 32)).heap.size) _ _ d.2.1.2.1 d.2.1.2.2.1 w7 (WrS.of_own OK7) (WrS.of_own OV7) LK.out LV.out (fun b hb => Nat.lt_of_lt_of_le hb.2 (Nat.le_trans G6.out g7.size)))
                      have HP7 := Lib.hid hp7
                      have HGE : Hid (w.heap.size ≤ wr.heap.size) := Lib.hid HPW.out.bel.size
                      clear hp7 g7 OK7 OV7 f0 f1 f2 f3 e0 e1 e2 e3 e4 e5 HPQ
                      go_wp2_with fail
                      refine HMK.out.mono ?_
                      unfold MarkP
                      rintro e w8 ⟨rfl, c8, -⟩
                      have HP8 : Hid (PlX (fun _ => False) w w8 ta rb hs (putF hs P d.2.1) (putF hs P d.2.1)) := Lib.hid ((HP7.out.turn c8 (fun b hb => Nat.le_trans HGE.out hb.1)).weak (fun _ h => h.elim))
                      have HPL2 := Lib.hid (putF_len hs P d.2.1)
                      clear c8
                      go_wp2_with fail
                      all_goals
                        go_meet
                        exact ⟨rfl, putF hs P d.2.1, by have := HPL2.out; omega, HP8.out⟩
            case rest =>
              obtain ⟨rfl, P2, hp2, hpl2⟩ := hcut
              have HPC := Lib.hid hpl2
              have HLA := Lib.hid (sLen hpl2.sa)
              clear hpl2 c0 c1 c2 c3 c4 c5
              go_wp2_with fail
              refine HLA.out.mono ?_
              rintro e w5 ⟨rfl, hb5⟩
              have HP5 := Lib.hid (HPC.out.below hb5)
              obtain ⟨hv5, lv5, hr5⟩ := (HPC.out.below hb5).rr
              have HLB := Lib.hid (rlen_any hr5)
              clear hb5 hr5 HLA
              go_wp2_with fail
              refine HLB.out.mono ?_
              rintro e w6 ⟨rfl, hb6⟩
              have HP6 := Lib.hid (HP5.out.below hb6)
              have HBA := Lib.hid (sBytes (HP5.out.below hb6).sa)
              clear hb6 HLB
              go_wp2_with fail
              refine HBA.out.mono ?_
              rintro e w7 ⟨rfl, hb7⟩
              have HP7 := Lib.hid (HP6.out.below hb7)
              obtain ⟨hv7, lv7, hr7⟩ := (HP6.out.below hb7).rr
              have HBB := Lib.hid (rbytes_any hr7)
              clear hb7 hr7 HBA
              go_wp2_with fail
              refine HBB.out.mono ?_
              rintro e w8 ⟨rfl, hb8⟩
              have HP8 := Lib.hid (HP7.out.below hb8)
              clear hb8 HBB
              go_wp2_with fail
              go_roundw
              case rel => exact ⟨n + 1, P2, by have := HNL.out; omega, by have := HN3.out; omega, by go_num, hp2, HP8.out⟩
              case measure =>
                have := HNL.out
                simp [intOf] <;> omega
          · have p1 : ¬ (n : Int) < 200 := by omega
            clear hnl hn3
            go_wp2_with fail
            go_ret
            exact ⟨rfl, hpl.out.bel⟩
        · have p0 : ¬ (n : Int) < l.length := by omega
          clear hnl
          go_wp2_with fail
          go_ret
          exact ⟨rfl, hpl.out.bel⟩
end Mt
end Go.Proofs.Ytgkgfghmpimaoaa
