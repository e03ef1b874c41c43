/- wal: the document's read. -/
import Derived.Test.YtlfelpbcnpjneaaWalRRead
namespace Go.Proofs.Ytlfelpbcnpjneaa
open Go.RowKit
namespace Wal
open Codec
theorem rrd_bad {b : List Int} (h : hdB b = true ∨ 256 < hdMany b ∨ (prOps b).2 = true) : rrdRes b = (0, [], false) := by unfold rrdRes; rw [if_pos h]
theorem numBad_true (l : List Int) : numBad l true = true := by unfold numBad; split <;> rfl
theorem stB_nil : stB [] = true := by
  have h1 : stB2 [] = true := textBad_true
  unfold stB
  split
  · exact h1
  · rw [h1]; exact textBad_true
def RReadPost (b : List Int) (w : World) (e : Ending) (w' : World) : Prop :=
  ∃ v, e = .returned (.tuple #[.agg #[.int .u64 (rrdRes b).1, v], .bool (rrdRes b).2.2]) ∧ OwnOps w' w.heap.size v (rrdRes b).2.1 ∧ Below w.heap.size w w'
theorem zeros_back {w wr : World} (hb : Below w.heap.size w wr) : Below w.heap.size w ((wr.setCell ⟨w.heap.size, 0, none⟩ (.int .u64 0)).setCell ⟨w.heap.size, 1, none⟩ (.slice none 0 0)) :=
  (hb.setCell (p := ⟨w.heap.size, 0, none⟩) (Nat.le_refl _) _).setCell (p := ⟨w.heap.size, 1, none⟩) (Nat.le_refl _) _
set_option maxRecDepth 100000 in
set_option maxHeartbeats 4000000 in
theorem rRead_any (bv : Value) (b : List Int) (w : World) (hb : IsB w bv b) (hl : b.length ≤ 2097152) :
    Calls Try.prog 24 #[bv] w (RReadPost b w) := by
  have hn1 := takeN_bd hb.rng
  have hrg : Rng (numRest b) := by unfold numRest; split; exact hb.rng.drop _; exact hb.rng
  have hn2 := takeN_bd hrg
  obtain ⟨⟨n1a, n1b⟩, -, -⟩ := hn1
  obtain ⟨⟨n2a, n2b⟩, -, -⟩ := hn2
  have hs : (takeN b).1 = (hdSeq b : Int) := by unfold hdSeq; omega
  have hmn : (takeN (numRest b)).1 = (hdMany b : Int) := by unfold hdMany; omega
  have hs64 : hdSeq b < 18446744073709551616 := by omega
  have hm64 : hdMany b < 18446744073709551616 := by omega
  have hBdef : hdB b = numBad (numRest b) (numBad b false) := rfl
  have hN1 : numBad b false = if (takeN b).2.2 = 0 then false else true := rfl
  obtain ⟨bo, bcap, rfl, -, -, -⟩ := hb.form
  have HB := Lib.hid hb
  have HR0 := rNum_any _ b (w.alloc (.cells #[.int .u64 0, .slice none 0 0] 25)) (hb.alloc _)
  unfold RnPost at HR0
  rw [hs] at HR0
  have HMN := Lib.hid hmn
  obtain ⟨i1, hi1, hy0, hy1, hy2⟩ := info_parts infoOp
  have HI1 := Lib.hid hi1; have HY0 := Lib.hid hy0; have HY1 := Lib.hid hy1; have HY2 := Lib.hid hy2
  clear hi1 hy0 hy1 hy2 hb hs hmn n1a n1b n2a n2b hrg
  by_cases he1 : (takeN b).2.2 = 0
  · rw [if_pos he1, decide_eq_true he1] at HR0
    rw [if_pos he1] at hN1
    rw [hN1] at hBdef
    have HR0 := Lib.hid HR0
    go_enter Try.func24, Try.ntmps24
    -- boxes
    go_wp2_with fail
    refine (HR0.out).mono ?_
    rintro e w1 ⟨rv, rfl, hrv, hb⟩
    replace kb0_0 : w1.cell? ⟨w.heap.size, 0, none⟩ = some (.int .u64 0) := (hb.cell (p := ⟨w.heap.size, 0, none⟩) (by simp <;> omega)).trans (by go_simp)
    replace kb0_0f : w1.frozen? ⟨w.heap.size, 0, none⟩ = false := (hb.frozen (p := ⟨w.heap.size, 0, none⟩) (by simp <;> omega)).trans (by go_simp)
    replace kb0_1 : w1.cell? ⟨w.heap.size, 1, none⟩ = some (.slice none 0 0) := (hb.cell (p := ⟨w.heap.size, 1, none⟩) (by simp <;> omega)).trans (by go_simp)
    replace kb0_1f : w1.frozen? ⟨w.heap.size, 1, none⟩ = false := (hb.frozen (p := ⟨w.heap.size, 1, none⟩) (by simp <;> omega)).trans (by go_simp)
    have zb1 := hb.size; (try simp at zb1)
    replace zz : w.heap.size ≤ w1.heap.size := by omega
    replace ybw_heap_size : w.heap.size < w1.heap.size := by omega
    replace gg : Below w.heap.size w w1 := (by repeat' (first | (with_reducible exact Below.refl _ _) | (with_reducible assumption) | (with_reducible refine Below.drew ?_) | (with_reducible refine below_drewN ?_ _) | (with_reducible refine bel_alloc ?_ _) | (with_reducible refine Below.setCell ?_ ?_ _) | (with_reducible refine bel_call ?_ (by assumption)) | (simp <;> omega)))
    have HQ1 := Lib.hid hb
    clear hb
    have HRV := Lib.hid hrv
    obtain ⟨ro, rc, rfl, -, -, -⟩ := hrv.form
    have HR1 := rNum_any _ (numRest b) w1 (hrv.below HQ1.out)
    unfold RnPost at HR1
    rw [HMN.out] at HR1
    have hN2 : hdB b = if (takeN (numRest b)).2.2 = 0 then false else true := by rw [hBdef]; rfl
    by_cases he2 : (takeN (numRest b)).2.2 = 0
    · rw [if_pos he2, decide_eq_true he2] at HR1
      rw [if_pos he2] at hN2
      have HR1 := Lib.hid HR1
      clear hrv hBdef hN1
      go_wp2_with fail
      refine (HR1.out).mono ?_
      rintro e w2 ⟨rv, rfl, hrv, hb⟩
      replace kb0_0 : w2.cell? ⟨w.heap.size, 0, none⟩ = some (.int .u64 0) := (hb.cell (p := ⟨w.heap.size, 0, none⟩) (by simp <;> omega)).trans (by go_simp)
      replace kb0_0f : w2.frozen? ⟨w.heap.size, 0, none⟩ = false := (hb.frozen (p := ⟨w.heap.size, 0, none⟩) (by simp <;> omega)).trans (by go_simp)
      replace kb0_1 : w2.cell? ⟨w.heap.size, 1, none⟩ = some (.slice none 0 0) := (hb.cell (p := ⟨w.heap.size, 1, none⟩) (by simp <;> omega)).trans (by go_simp)
      replace kb0_1f : w2.frozen? ⟨w.heap.size, 1, none⟩ = false := (hb.frozen (p := ⟨w.heap.size, 1, none⟩) (by simp <;> omega)).trans (by go_simp)
      have zb2 := hb.size; (try simp at zb2)
      replace zz : w.heap.size ≤ w2.heap.size := by omega
      replace ybw_heap_size : w.heap.size < w2.heap.size := by omega
      replace gg : Below w.heap.size w w2 := (by repeat' (first | (with_reducible exact Below.refl _ _) | (with_reducible assumption) | (with_reducible refine Below.drew ?_) | (with_reducible refine below_drewN ?_ _) | (with_reducible refine bel_alloc ?_ _) | (with_reducible refine Below.setCell ?_ ?_ _) | (with_reducible refine bel_call ?_ (by assumption)) | (simp <;> omega)))
      have HQ2 := Lib.hid hb
      clear hb
      by_cases hbig : 256 < hdMany b
      · have HBAD := Lib.hid (rrd_bad (.inr (.inl hbig)))
        have hbig' : (256 : Int) < hdMany b := by omega
        obtain ⟨ro2, rc2, rfl, -, -, -⟩ := hrv.form
        clear hrv
        go_wp2_with fail
        refine bodyPost_ret (v := .tuple #[.agg #[.int .u64 0, .slice none 0 0], .bool false]) (by simp [results, Try.results24, go_sem]; go_simp) rfl ⟨_, ret_read HBAD.out, by rw [HBAD.out]; exact OwnOps.nil _ _, zeros_back gg⟩
      · have hbig' : ¬ (256 : Int) < hdMany b := by omega
        have hwm := IntWalk.i64_in (hdMany b : Int) (by omega)
        have HL := Lib.hid hrv
        have HJ0 := rdJ_start b
        rw [hN2] at HJ0
        have HJ0 := Lib.hid HJ0
        have HDB := Lib.hid hN2
        obtain ⟨ro2, rc2, rfl, -, -, -⟩ := hrv.form
        have HQ2' := Lib.hid (bel_alloc HQ2.out (.cells #[.int .u64 (hdSeq b), .slice none 0 0] 25))
        have gg' := bel_alloc gg (.cells #[.int .u64 (hdSeq b), .slice none 0 0] 25)
        have hzz : w1.heap.size ≤ w2.heap.size := HQ2.out.size
        clear hrv hN2
        go_wp2_with fail
        go_loopg [5, 10] (hdMany b) (fun gk rv iv wr => RRel b w w1 w2 gk rv iv wr)
        case atStart => exact ⟨0, hdL b, [], .slice none 0 0, rfl, rfl, HL.out, HQ2'.out, by go_simp, by go_simp, by go_simp, by go_simp, by go_simp, by go_simp, by go_simp, by go_simp, OwnOps.nil _ _, HJ0.out, gg', by simp⟩
        case round =>
          obtain ⟨k, cur, ops, ov, hgk, rfl, hcur, hbb, kb0_0, kb0_0f, kb0_1, kb0_1f, kb1_0, kb1_0f, kb1_1, kb1_1f, hop, hj, gg, zw1⟩ := hrel
          have hop := Lib.hid hop
          have hj := Lib.hid hj
          have hbb := Lib.hid hbb
          have HC := Lib.hid hcur
          have hjl := rdJ_len hj.out
          have HG := Lib.hid hgk
          obtain ⟨ys, hys, -⟩ := hop.out
          obtain ⟨oo, ocap, rfl, -, -, -, -⟩ := own_form hys
          obtain ⟨co, ccap, rfl, hnc, hcc, -⟩ := hcur.form
          have zr1 : w.heap.size < wr.heap.size := by omega
          have zr2 := hbb.out.size
          clear hgk hys gg'
          by_cases hk : k < hdMany b
          · have hk1 : (k : Int) < hdMany b := by omega
            have hw1 := IntWalk.i64_in ((k : Int) + 1) (by omega)
            cases cur with
            | nil =>
              have HBAD := Lib.hid (rrd_bad (.inr (.inr ((rdJ_step hj.out hk).1 stB_nil).1)))
              clear hcur
              go_wp2_with fail
              refine bodyPost_ret (v := .tuple #[.agg #[.int .u64 0, .slice none 0 0], .bool false]) (by simp [results, Try.results24, go_sem]; go_simp) rfl ⟨_, ret_read HBAD.out, by rw [HBAD.out]; exact OwnOps.nil _ _, zeros_back gg⟩
            | cons x0 C0 =>
              obtain ⟨cb, cof, x, hcoe, hcbw, hx, hxc, -, -⟩ := hcur.at_ (k := 0) (by simp)
              subst hcoe
              obtain ⟨cur, hcure⟩ : ∃ cur, x0 :: C0 = cur := ⟨_, rfl⟩
              have hclen : 1 ≤ cur.length := by rw [← hcure]; simp
              have hget : cur.getD 0 0 = x := by have := hx.out; rw [← hcure]; simpa using this
              rw [hcure] at hcur HC hj hnc
              rw [hcure]
              have HGET := Lib.hid hget
              have q0 : ((cur.length : Int) == 0) = false := beq_eq_false_iff_ne.2 (by omega)
              have hl1 : (0 : Int) < cur.length := by omega
              have hxw := (hbb.out.cell (p := ⟨cb, cof + 0, none⟩) hcbw).trans hxc
              simp only [Nat.add_zero] at hxw
              have hcl63 : cur.length ≤ 2097152 := by have := (hj.out.2 rfl).2.2; omega
              have hget' : cur.getD 0 0 = x := hget
              have hw1' : True := trivial
              clear hx hxc hcure hget hcur
              have hdel : stDel cur = decide (x = 1) := by unfold stDel; rw [hget']
              have hsB : stB cur = if stDel cur then textBad (cur.drop 1) (byteBad cur false) else textBad (textRest (cur.drop 1)) (textBad (cur.drop 1) (byteBad cur false)) := rfl
              have hsL : stL cur = if stDel cur then textRest (cur.drop 1) else textRest (textRest (cur.drop 1)) := rfl
              have hsO : stOp cur = (stDel cur, (takeTextF (cur.drop 1)).1, if stDel cur then [] else (takeTextF (textRest (cur.drop 1))).1) := rfl
              have hbyte : byteBad cur false = false := by unfold byteBad; rw [if_neg (by intro h; rw [h] at hclen; simp at hclen)]
              rw [hbyte] at hsB
              have hCr : Rng (cur.drop 1) := HC.out.rng.drop 1
              obtain ⟨C, hC⟩ : ∃ C, cur.drop 1 = C := ⟨_, rfl⟩
              have hClen : C.length = cur.length - 1 := by rw [← hC, List.length_drop]
              have hcut : ccap ≠ 1 → IsB w1 (.slice (some ⟨cb, cof + 1, none⟩) (cur.length - 1) (ccap - 1)) C := fun h => by
                have := HC.out.cut 1 (cur.length - 1) (by omega)
                rw [Option.map_some, plain_add', List.take_of_length_le (by rw [List.length_drop]; omega), hC] at this
                exact this
              rw [hC] at hsB hsL hsO hCr
              have hT1e : textBad C false = if (takeTextF C).2.2 = 0 then false else true := rfl
              have hT1r : textRest C = if (takeTextF C).2.2 = 0 then C.drop (takeTextF C).2.1.toNat else C := rfl
              have hT1b := takeTextF_bd hCr
              have HCUT := Lib.hid hcut
              have HC0 : Hid (IsB w1 (.slice (some ⟨cb, cof, none⟩) 0 0) []) := Lib.hid HC.out.cut0
              have HCC := Lib.hid hC
              have HSB0 := Lib.hid hsB
              have HSL0 := Lib.hid hsL
              have HSO0 := Lib.hid hsO
              have HT1E := Lib.hid hT1e
              have HT1R := Lib.hid hT1r
              have HT1B := Lib.hid hT1b
              have HDEL := Lib.hid hdel
              have HGETX := Lib.hid hget'
              have HBADx : stB cur = true → rrdRes b = (0, [], false) := fun h => rrd_bad (.inr (.inr ((rdJ_step hj.out hk).1 h).1))
              have HBADX := Lib.hid HBADx
              clear hsB hsL hsO hCr hC hT1e hT1r hT1b hcut HBADx hdel hget' hbyte hw1'
              have hbad1 : (takeTextF C).2.2 ≠ 0 → rrdRes b = (0, [], false) := fun h => HBADX.out (by
                have h1 : textBad C false = true := by rw [HT1E.out, if_neg h]
                rw [HSB0.out, h1]
                split
                · rfl
                · exact textBad_true)
              have HBAD1 := Lib.hid hbad1
              clear hbad1
              rcases hxd : (x == 1) with _ | _
              · have HD : Hid (stDel cur = false) := Lib.hid (by rw [HDEL.out]; rw [decide_eq_false_iff_not]; intro h; rw [h] at hxd; exact absurd hxd (by decide))
                by_cases hc1 : ccap = 1
                · subst hc1
                  have hCn : C = [] := List.eq_nil_of_length_eq_zero (by omega)
                  have e0 : takeTextF C = ([], 0, 10) := by rw [hCn]; decide
                  have HBAD := Lib.hid (HBAD1.out (by rw [e0]; decide))
                  have hT1 := rTakeText_any (.slice (some ⟨cb, cof, none⟩) 0 0) C (wr.alloc (.cells #[.bool false, .slice none 0 0, .slice none 0 0] 43)) (by rw [hCn]; exact (HC0.out.below hbb.out).alloc _) (by omega)
                  unfold TTPost at hT1
                  rw [e0] at hT1
                  have HT1 := Lib.hid hT1
                  clear hT1 e0 hCn
                  go_wp2_with fail
                  refine HT1.out.mono ?_
                  rintro e w3 ⟨kv, rfl, hkv, hb⟩
                  have gz3 := bel_call (bel_alloc (Below.refl _ wr) (.cells #[.bool false, .slice none 0 0, .slice none 0 0] 43)) hb
                  have GW := Lib.hid gz3
                  have kb0_0 := (GW.out.cell (p := ⟨w.heap.size, 0, none⟩) (by simp only; omega)).trans kb0_0
                  have kb0_1 := (GW.out.cell (p := ⟨w.heap.size, 1, none⟩) (by simp only; omega)).trans kb0_1
                  have kb0_0f := (GW.out.frozen (p := ⟨w.heap.size, 0, none⟩) (by simp only; omega)).trans kb0_0f
                  have kb0_1f := (GW.out.frozen (p := ⟨w.heap.size, 1, none⟩) (by simp only; omega)).trans kb0_1f
                  have ggz := gg.trans (gz3.mono gg.size)
                  obtain ⟨ko, kcap, rfl, -, -, -, -⟩ := hkv.form
                  clear hkv hb
                  go_wp2_with fail
                  refine bodyPost_ret (v := .tuple #[.agg #[.int .u64 0, .slice none 0 0], .bool false]) (by simp [results, Try.results24, go_sem]; go_simp) rfl ⟨_, ret_read HBAD.out, by rw [HBAD.out]; exact OwnOps.nil _ _, zeros_back ggz⟩
                · obtain ⟨⟨KY, n1, e1⟩, hT1e⟩ : ∃ t, takeTextF C = t := ⟨_, rfl⟩
                  have hT1 := rTakeText_any (.slice (some ⟨cb, cof + 1, none⟩) (cur.length - 1) (ccap - 1)) C (wr.alloc (.cells #[.bool false, .slice none 0 0, .slice none 0 0] 43)) (((HCUT.out hc1).below hbb.out).alloc _) (by omega)
                  unfold TTPost at hT1
                  rw [hT1e] at hT1
                  have HT1 := Lib.hid hT1
                  have hb1 := HT1B.out
                  rw [hT1e] at hb1
                  obtain ⟨hb1, hb2, -⟩ := hb1
                  obtain ⟨N1, rfl⟩ := Int.eq_ofNat_of_zero_le hb1
                  have hb3 : N1 ≤ C.length := by simpa using hb2
                  have hcc1 : 1 ≤ ccap := by omega
                  clear hT1 hb1 hb2
                  by_cases he1 : e1 = 0
                  · subst he1
                    have hr1 : textRest C = C.drop N1 := by rw [HT1R.out, hT1e, if_pos rfl]; rfl
                    have hbd1 : textBad C false = false := by rw [HT1E.out, hT1e, if_pos rfl]
                    have hcd : cur.drop (1 + N1) = C.drop N1 := by rw [← HCC.out, List.drop_drop]
                    have HR1 := Lib.hid hr1
                    have HBD1 := Lib.hid hbd1
                    have HTE := Lib.hid hT1e
                    have HCD := Lib.hid hcd
                    have hw2 := IntWalk.i64_in ((1 : Int) + N1) (by omega)
                    have hw3 : ((1 : Int) + N1).toNat = 1 + N1 := by omega
                    have hw4 : 0 ≤ (1 : Int) + N1 := by omega
                    have hw5 : 1 + N1 ≤ ccap := by omega
                    clear hr1 hbd1 hT1e hcd
                    by_cases hc2 : ccap = 1 + N1
                    · have hrn : textRest C = [] := by rw [HR1.out]; exact List.drop_eq_nil_of_le (by omega)
                      have e0 : takeTextF [] = ([], 0, 10) := by decide
                      have HBAD := Lib.hid (HBADX.out (by
                        rw [HSB0.out, HD.out, if_neg (by decide), hrn]
                        unfold textBad
                        rw [e0]
                        rfl))
                      have HC2 := Lib.hid hc2
                      clear hc2 hrn
                      go_wp2_with fail
                      refine HT1.out.mono ?_
                      rintro e w3 ⟨kv, rfl, hkv, hb⟩
                      have gz3 := bel_call (bel_alloc (Below.refl _ wr) (.cells #[.bool false, .slice none 0 0, .slice none 0 0] 43)) hb
                      have kd0 : w3.cell? ⟨wr.heap.size, 0, none⟩ = some (.bool false) := (hb.cell (p := ⟨wr.heap.size, 0, none⟩) (by simp)).trans (by go_simp)
                      have kd1 : w3.cell? ⟨wr.heap.size, 1, none⟩ = some (.slice none 0 0) := (hb.cell (p := ⟨wr.heap.size, 1, none⟩) (by simp)).trans (by go_simp)
                      have kd1f : w3.frozen? ⟨wr.heap.size, 1, none⟩ = false := (hb.frozen (p := ⟨wr.heap.size, 1, none⟩) (by simp)).trans (by go_simp)
                      have kd2 : w3.cell? ⟨wr.heap.size, 2, none⟩ = some (.slice none 0 0) := (hb.cell (p := ⟨wr.heap.size, 2, none⟩) (by simp)).trans (by go_simp)
                      have kd2f : w3.frozen? ⟨wr.heap.size, 2, none⟩ = false := (hb.frozen (p := ⟨wr.heap.size, 2, none⟩) (by simp)).trans (by go_simp)
                      have zo3 : wr.heap.size < w3.heap.size := by have := hb.size; simp at this; omega
                      obtain ⟨ko, kcap, rfl, -, -, -, -⟩ := hkv.form
                      have HK3' := Lib.hid hkv
                      have gzs := gz3.setCell (p := ⟨wr.heap.size, 1, none⟩) (Nat.le_refl _) (.slice ko KY.length kcap)
                      have HGS := Lib.hid gzs
                      have HK3s := Lib.hid (hkv.kept (gb_one (g := wr.heap.size) (o := 1) (.slice ko KY.length kcap)) (.inr fun e => by have := (hkv.lt _ e).1; simp at this; omega))
                      have GBS := Lib.hid (hbb.out.trans (gzs.mono hbb.out.size))
                      have hT2 := rTakeText_any (.slice (some ⟨cb, cof, none⟩) 0 0) [] (w3.setCell ⟨wr.heap.size, 1, none⟩ (.slice ko KY.length kcap)) (HC0.out.below GBS.out) (by simp)
                      unfold TTPost at hT2
                      rw [e0] at hT2
                      have HT2 := Lib.hid hT2
                      clear hT2 hb gzs
                      have hc2 := HC2.out
                      have hz0 : cur.length - (1 + N1) = 0 := by omega
                      go_wp2_with fail
                      refine HT2.out.mono ?_
                      rintro e w4 ⟨vv, rfl, hvv, hb4⟩
                      have gz4 := bel_call HGS.out hb4
                      have zo4 : wr.heap.size < (w3.setCell ⟨wr.heap.size, 1, none⟩ (.slice ko KY.length kcap)).heap.size := by simp; omega
                      have kf0 : w4.cell? ⟨wr.heap.size, 0, none⟩ = some (.bool false) := (hb4.cell (p := ⟨wr.heap.size, 0, none⟩) zo4).trans (by go_simp)
                      have kf1 : w4.cell? ⟨wr.heap.size, 1, none⟩ = some (.slice ko KY.length kcap) := (hb4.cell (p := ⟨wr.heap.size, 1, none⟩) zo4).trans (by go_simp)
                      have kf2 : w4.cell? ⟨wr.heap.size, 2, none⟩ = some (.slice none 0 0) := (hb4.cell (p := ⟨wr.heap.size, 2, none⟩) zo4).trans (by go_simp)
                      have kf2f : w4.frozen? ⟨wr.heap.size, 2, none⟩ = false := (hb4.frozen (p := ⟨wr.heap.size, 2, none⟩) zo4).trans (by go_simp)
                      have zo5 : wr.heap.size < w4.heap.size := by have := hb4.size; omega
                      have HK3 := Lib.hid (HK3s.out.below hb4)
                      obtain ⟨vo, vcap, rfl, -, -, -, -⟩ := hvv.form
                      have GW := Lib.hid gz4
                      have kb0_0 := (GW.out.cell (p := ⟨w.heap.size, 0, none⟩) (by simp only; omega)).trans kb0_0
                      have kb0_1 := (GW.out.cell (p := ⟨w.heap.size, 1, none⟩) (by simp only; omega)).trans kb0_1
                      have kb0_0f := (GW.out.frozen (p := ⟨w.heap.size, 0, none⟩) (by simp only; omega)).trans kb0_0f
                      have kb0_1f := (GW.out.frozen (p := ⟨w.heap.size, 1, none⟩) (by simp only; omega)).trans kb0_1f
                      have ggz := gg.trans (gz4.mono gg.size)
                      clear hvv hb4
                      go_wp2_with fail
                      refine bodyPost_ret (v := .tuple #[.agg #[.int .u64 0, .slice none 0 0], .bool false]) (by simp [results, Try.results24, go_sem]; go_simp) rfl ⟨_, ret_read HBAD.out, by rw [HBAD.out]; exact OwnOps.nil _ _, zeros_back ggz⟩
                    · have HREST1 : Hid (IsB w1 (.slice (some ⟨cb, cof + (1 + N1), none⟩) (cur.length - (1 + N1)) (ccap - (1 + N1))) (textRest C)) := Lib.hid (by
                        have := HC.out.cut (1 + N1) (cur.length - (1 + N1)) (by omega)
                        rw [Option.map_some, plain_add', List.take_of_length_le (by rw [List.length_drop]; omega), HCD.out] at this
                        rw [HR1.out]; exact this)
                      have HLR : Hid ((textRest C).length = cur.length - (1 + N1)) := Lib.hid (by rw [HR1.out, List.length_drop]; omega)
                      obtain ⟨⟨VY, n2, e2⟩, hT2e⟩ : ∃ t, takeTextF (textRest C) = t := ⟨_, rfl⟩
                      have hb2 := takeTextF_bd HREST1.out.rng
                      rw [hT2e, HLR.out] at hb2
                      obtain ⟨hb2, hb3', -⟩ := hb2
                      obtain ⟨N2, rfl⟩ := Int.eq_ofNat_of_zero_le hb2
                      have hb4' : N2 ≤ cur.length - (1 + N1) := by simpa using hb3'
                      clear hb2 hb3'
                      go_wp2_with fail
                      refine HT1.out.mono ?_
                      rintro e w3 ⟨kv, rfl, hkv, hb⟩
                      have gz3 := bel_call (bel_alloc (Below.refl _ wr) (.cells #[.bool false, .slice none 0 0, .slice none 0 0] 43)) hb
                      have kd0 : w3.cell? ⟨wr.heap.size, 0, none⟩ = some (.bool false) := (hb.cell (p := ⟨wr.heap.size, 0, none⟩) (by simp)).trans (by go_simp)
                      have kd1 : w3.cell? ⟨wr.heap.size, 1, none⟩ = some (.slice none 0 0) := (hb.cell (p := ⟨wr.heap.size, 1, none⟩) (by simp)).trans (by go_simp)
                      have kd1f : w3.frozen? ⟨wr.heap.size, 1, none⟩ = false := (hb.frozen (p := ⟨wr.heap.size, 1, none⟩) (by simp)).trans (by go_simp)
                      have kd2 : w3.cell? ⟨wr.heap.size, 2, none⟩ = some (.slice none 0 0) := (hb.cell (p := ⟨wr.heap.size, 2, none⟩) (by simp)).trans (by go_simp)
                      have kd2f : w3.frozen? ⟨wr.heap.size, 2, none⟩ = false := (hb.frozen (p := ⟨wr.heap.size, 2, none⟩) (by simp)).trans (by go_simp)
                      have zo3 : wr.heap.size < w3.heap.size := by have := hb.size; simp at this; omega
                      obtain ⟨ko, kcap, rfl, -, -, -, -⟩ := hkv.form
                      have HK3' := Lib.hid hkv
                      have gzs := gz3.setCell (p := ⟨wr.heap.size, 1, none⟩) (Nat.le_refl _) (.slice ko KY.length kcap)
                      have HGS := Lib.hid gzs
                      have HK3s := Lib.hid (hkv.kept (gb_one (g := wr.heap.size) (o := 1) (.slice ko KY.length kcap)) (.inr fun e => by have := (hkv.lt _ e).1; simp at this; omega))
                      have GBS := Lib.hid (hbb.out.trans (gzs.mono hbb.out.size))
                      have hT2 := rTakeText_any (.slice (some ⟨cb, cof + (1 + N1), none⟩) (cur.length - (1 + N1)) (ccap - (1 + N1))) (textRest C) (w3.setCell ⟨wr.heap.size, 1, none⟩ (.slice ko KY.length kcap)) (HREST1.out.below GBS.out) (by have := HLR.out; omega)
                      unfold TTPost at hT2
                      rw [hT2e] at hT2
                      have HT2 := Lib.hid hT2
                      clear hT2 hb gzs
                      by_cases he2 : e2 = 0
                      · subst he2
                        have HSB : Hid (stB cur = false) := Lib.hid (by
                          rw [HSB0.out, HD.out, if_neg (by decide), HBD1.out]
                          unfold textBad
                          rw [hT2e, if_pos rfl])
                        have HSTO : Hid (stOp cur = (false, KY, VY)) := Lib.hid (by rw [HSO0.out, HD.out, HTE.out, hT2e]; rfl)
                        have HSL1 : Hid (stL cur = (textRest C).drop N2) := Lib.hid (by
                          rw [HSL0.out, HD.out, if_neg (by decide)]
                          show textRest (textRest C) = _
                          conv => lhs; unfold textRest
                          rw [show takeTextF (if (takeTextF C).2.2 = 0 then C.drop (takeTextF C).2.1.toNat else C) = (VY, (N2 : Int), 0) from hT2e, if_pos rfl]
                          rfl)
                        clear hT2e
                        by_cases hc3 : ccap - (1 + N1) = N2
                        · have HREST : Hid (IsB w1 (.slice (some ⟨cb, cof + (1 + N1), none⟩) 0 0) (stL cur)) := Lib.hid (by
                            have : (textRest C).drop N2 = [] := List.drop_eq_nil_of_le (by have := HLR.out; omega)
                            rw [HSL1.out, this]; exact HREST1.out.cut0)
                          have HC3 := Lib.hid hc3
                          clear hc3
                          go_wp2_with fail
                          refine HT2.out.mono ?_
                          rintro e w4 ⟨vv, rfl, hvv, hb4⟩
                          have gz4 := bel_call HGS.out hb4
                          have zo4 : wr.heap.size < (w3.setCell ⟨wr.heap.size, 1, none⟩ (.slice ko KY.length kcap)).heap.size := by simp; omega
                          have kf0 : w4.cell? ⟨wr.heap.size, 0, none⟩ = some (.bool false) := (hb4.cell (p := ⟨wr.heap.size, 0, none⟩) zo4).trans (by go_simp)
                          have kf1 : w4.cell? ⟨wr.heap.size, 1, none⟩ = some (.slice ko KY.length kcap) := (hb4.cell (p := ⟨wr.heap.size, 1, none⟩) zo4).trans (by go_simp)
                          have kf2 : w4.cell? ⟨wr.heap.size, 2, none⟩ = some (.slice none 0 0) := (hb4.cell (p := ⟨wr.heap.size, 2, none⟩) zo4).trans (by go_simp)
                          have kf2f : w4.frozen? ⟨wr.heap.size, 2, none⟩ = false := (hb4.frozen (p := ⟨wr.heap.size, 2, none⟩) zo4).trans (by go_simp)
                          have zo5 : wr.heap.size < w4.heap.size := by have := hb4.size; omega
                          have HK3 := Lib.hid (HK3s.out.below hb4)
                          obtain ⟨vo, vcap, rfl, -, -, -, -⟩ := hvv.form
                          have hc3 := HC3.out
                          have hz1 : cur.length - (1 + N1) - N2 = 0 := by omega
                          have hg4 : w4.grownBy (w4.setCell ⟨wr.heap.size, 2, none⟩ (.slice vo VY.length vcap)) (some wr.heap.size) := gb_one _
                          have gzz := gz4.setCell (p := ⟨wr.heap.size, 2, none⟩) (Nat.le_refl _) (.slice vo VY.length vcap)
                          have GZ := Lib.hid gzz
                          have ho5 := hop.out.below gzz
                          have hO0 : (w4.setCell ⟨wr.heap.size, 2, none⟩ (.slice vo VY.length vcap)).cell? ⟨wr.heap.size, 0, none⟩ = some (.bool false) := by go_simp
                          have hO1 : (w4.setCell ⟨wr.heap.size, 2, none⟩ (.slice vo VY.length vcap)).cell? ⟨wr.heap.size, 1, none⟩ = some (.slice ko KY.length kcap) := by go_simp
                          have hO2 : (w4.setCell ⟨wr.heap.size, 2, none⟩ (.slice vo VY.length vcap)).cell? ⟨wr.heap.size, 2, none⟩ = some (.slice vo VY.length vcap) := by go_simp
                          have hKZ : OwnS (w4.setCell ⟨wr.heap.size, 2, none⟩ (.slice vo VY.length vcap)) (w2.heap.size + 1) 5 (.slice ko KY.length kcap) KY := ((HK3.out.kept hg4 (.inr fun e => by have := (HK3.out.lt _ e).1; simp at this; omega)).mono (by simp; omega))
                          have hVZ : OwnS (w4.setCell ⟨wr.heap.size, 2, none⟩ (.slice vo VY.length vcap)) (w2.heap.size + 1) 5 (.slice vo VY.length vcap) (stOp cur).2.2 := (by rw [HSTO.out]; exact ((hvv.kept hg4 (.inr fun e => by have := (hvv.lt _ e).1; simp at this; omega)).mono (by simp; omega)))
                          obtain ⟨wz, hwz⟩ : ∃ wz, w4.setCell ⟨wr.heap.size, 2, none⟩ (.slice vo VY.length vcap) = wz := ⟨_, rfl⟩
                          rw [hwz] at gzz GZ ho5 hO0 hO1 hO2 hKZ hVZ
                          have hz6 : wr.heap.size ≤ wz.heap.size := gzz.size
                          obtain ⟨xs, hxs1, hxs2⟩ := ho5
                          have HX6 := Lib.hid hxs1
                          have HE6 := Lib.hid hxs2
                          have c0 := Lib.hid ((gzz.cell (p := ⟨w.heap.size, 0, none⟩) (by simp only; omega)).trans kb0_0)
                          have c0f := Lib.hid ((gzz.frozen (p := ⟨w.heap.size, 0, none⟩) (by simp only; omega)).trans kb0_0f)
                          have c1 := Lib.hid ((gzz.cell (p := ⟨w.heap.size, 1, none⟩) (by simp only; omega)).trans kb0_1)
                          have c1f := Lib.hid ((gzz.frozen (p := ⟨w.heap.size, 1, none⟩) (by simp only; omega)).trans kb0_1f)
                          have g0 := Lib.hid ((gzz.cell (p := ⟨w2.heap.size, 0, none⟩) zw1).trans kb1_0)
                          have g0f := Lib.hid ((gzz.frozen (p := ⟨w2.heap.size, 0, none⟩) zw1).trans kb1_0f)
                          have hG1 := (gzz.cell (p := ⟨w2.heap.size, 1, none⟩) zw1).trans kb1_1
                          have hG1f := (gzz.frozen (p := ⟨w2.heap.size, 1, none⟩) zw1).trans kb1_1f
                          have HKZ := Lib.hid hKZ
                          have HVZ := Lib.hid hVZ
                          have GWZ := Lib.hid (gg.trans (gzz.mono gg.size))
                          have GBZ := Lib.hid (hbb.out.trans (gzz.mono hbb.out.size))
                          have hzw : w2.heap.size < wz.heap.size := by omega
                          have hn6 : ops.length < 9223372036854775807 := by omega
                          have hb6 : (ops.length + 1) * 56 ≤ 140737488355328 := by omega
                          have hbz : w2.heap.size + 1 ≤ wz.heap.size := by omega
                          have RR := Lib.hid (fun v9 w9 => rr_round (v9 := v9) (w9 := w9) (rv := (.slice (some ⟨cb, cof + (1 + N1), none⟩) 0 0)) hj.out hk HSB.out HREST.out GBZ.out hzz c0.out c0f.out c1.out c1f.out g0.out g0f.out hG1 hG1f HX6.out HE6.out (by rw [HSTO.out]; exact HKZ.out) (by exact HVZ.out) GWZ.out (by omega) hzw)
                          clear hxs1 hxs2 gzz hKZ hVZ
                          go_wp2_with (at_builtin; (refine wpList_append_cells (w := wz) (base := w2.heap.size + 1) (e := 43) (size := 3) (v := .slice oo ops.length ocap) (.tmp 96) (.tmp 98) _ rfl rfl i1 _ 56 Try.underlying23 HI1.out HY0.out HY1.out HY2.out rfl (by decide) [.bool false, (.slice ko KY.length kcap), (.slice vo VY.length vcap)] rfl (by intro u hu; simp at hu; rcases hu with rfl | rfl | rfl <;> rfl) rfl rfl HX6.out hn6 hb6 hbz ?_; intro v9 w9 hown9 hg9 hb9; have HREL := Lib.hid (RR.out v9 w9 (by rw [HSTO.out]; exact hown9) hg9); have z9 := hg9.size; have hf9 : w9.frozen? ⟨w2.heap.size, 1, none⟩ = false := (frozen_grown hg9 hzw (fun he => by have := (HX6.out.lt _ he).1; omega)).trans hG1f; have hc9 : w9.cell? ⟨w2.heap.size, 1, none⟩ = some (.slice oo ops.length ocap) := (cell_grown hg9 hzw (fun he => by have := (HX6.out.lt _ he).1; omega)).trans hG1; obtain ⟨o9, c9, rfl, -, -, -, -⟩ := own_form hown9; clear hown9 hg9 hb9))
                          go_wp2_with fail
                          go_roundg (hdMany b - (k + 1))
                          case measure => have := HG.out; omega
                          case rel => exact HREL.out
                        · have HREST : Hid (IsB w1 (.slice (some ⟨cb, cof + (1 + N1) + N2, none⟩) (cur.length - (1 + N1) - N2) (ccap - (1 + N1) - N2)) (stL cur)) := Lib.hid (by
                            have h0 : IsB w1 (.slice (some ⟨cb, cof + (1 + N1), none⟩) (textRest C).length (ccap - (1 + N1))) (textRest C) := by rw [HLR.out]; exact HREST1.out
                            have := h0.cut N2 ((textRest C).length - N2) (by have := HLR.out; omega)
                            rw [Option.map_some, plain_add', List.take_of_length_le (by rw [List.length_drop]; omega), HLR.out] at this
                            rw [HSL1.out]; exact this)
                          go_wp2_with fail
                          refine HT2.out.mono ?_
                          rintro e w4 ⟨vv, rfl, hvv, hb4⟩
                          have gz4 := bel_call HGS.out hb4
                          have zo4 : wr.heap.size < (w3.setCell ⟨wr.heap.size, 1, none⟩ (.slice ko KY.length kcap)).heap.size := by simp; omega
                          have kf0 : w4.cell? ⟨wr.heap.size, 0, none⟩ = some (.bool false) := (hb4.cell (p := ⟨wr.heap.size, 0, none⟩) zo4).trans (by go_simp)
                          have kf1 : w4.cell? ⟨wr.heap.size, 1, none⟩ = some (.slice ko KY.length kcap) := (hb4.cell (p := ⟨wr.heap.size, 1, none⟩) zo4).trans (by go_simp)
                          have kf2 : w4.cell? ⟨wr.heap.size, 2, none⟩ = some (.slice none 0 0) := (hb4.cell (p := ⟨wr.heap.size, 2, none⟩) zo4).trans (by go_simp)
                          have kf2f : w4.frozen? ⟨wr.heap.size, 2, none⟩ = false := (hb4.frozen (p := ⟨wr.heap.size, 2, none⟩) zo4).trans (by go_simp)
                          have zo5 : wr.heap.size < w4.heap.size := by have := hb4.size; omega
                          have HK3 := Lib.hid (HK3s.out.below hb4)
                          obtain ⟨vo, vcap, rfl, -, -, -, -⟩ := hvv.form
                          have hg4 : w4.grownBy (w4.setCell ⟨wr.heap.size, 2, none⟩ (.slice vo VY.length vcap)) (some wr.heap.size) := gb_one _
                          have gzz := gz4.setCell (p := ⟨wr.heap.size, 2, none⟩) (Nat.le_refl _) (.slice vo VY.length vcap)
                          have GZ := Lib.hid gzz
                          have ho5 := hop.out.below gzz
                          have hO0 : (w4.setCell ⟨wr.heap.size, 2, none⟩ (.slice vo VY.length vcap)).cell? ⟨wr.heap.size, 0, none⟩ = some (.bool false) := by go_simp
                          have hO1 : (w4.setCell ⟨wr.heap.size, 2, none⟩ (.slice vo VY.length vcap)).cell? ⟨wr.heap.size, 1, none⟩ = some (.slice ko KY.length kcap) := by go_simp
                          have hO2 : (w4.setCell ⟨wr.heap.size, 2, none⟩ (.slice vo VY.length vcap)).cell? ⟨wr.heap.size, 2, none⟩ = some (.slice vo VY.length vcap) := by go_simp
                          have hKZ : OwnS (w4.setCell ⟨wr.heap.size, 2, none⟩ (.slice vo VY.length vcap)) (w2.heap.size + 1) 5 (.slice ko KY.length kcap) KY := ((HK3.out.kept hg4 (.inr fun e => by have := (HK3.out.lt _ e).1; simp at this; omega)).mono (by simp; omega))
                          have hVZ : OwnS (w4.setCell ⟨wr.heap.size, 2, none⟩ (.slice vo VY.length vcap)) (w2.heap.size + 1) 5 (.slice vo VY.length vcap) (stOp cur).2.2 := (by rw [HSTO.out]; exact ((hvv.kept hg4 (.inr fun e => by have := (hvv.lt _ e).1; simp at this; omega)).mono (by simp; omega)))
                          obtain ⟨wz, hwz⟩ : ∃ wz, w4.setCell ⟨wr.heap.size, 2, none⟩ (.slice vo VY.length vcap) = wz := ⟨_, rfl⟩
                          rw [hwz] at gzz GZ ho5 hO0 hO1 hO2 hKZ hVZ
                          have hz6 : wr.heap.size ≤ wz.heap.size := gzz.size
                          obtain ⟨xs, hxs1, hxs2⟩ := ho5
                          have HX6 := Lib.hid hxs1
                          have HE6 := Lib.hid hxs2
                          have c0 := Lib.hid ((gzz.cell (p := ⟨w.heap.size, 0, none⟩) (by simp only; omega)).trans kb0_0)
                          have c0f := Lib.hid ((gzz.frozen (p := ⟨w.heap.size, 0, none⟩) (by simp only; omega)).trans kb0_0f)
                          have c1 := Lib.hid ((gzz.cell (p := ⟨w.heap.size, 1, none⟩) (by simp only; omega)).trans kb0_1)
                          have c1f := Lib.hid ((gzz.frozen (p := ⟨w.heap.size, 1, none⟩) (by simp only; omega)).trans kb0_1f)
                          have g0 := Lib.hid ((gzz.cell (p := ⟨w2.heap.size, 0, none⟩) zw1).trans kb1_0)
                          have g0f := Lib.hid ((gzz.frozen (p := ⟨w2.heap.size, 0, none⟩) zw1).trans kb1_0f)
                          have hG1 := (gzz.cell (p := ⟨w2.heap.size, 1, none⟩) zw1).trans kb1_1
                          have hG1f := (gzz.frozen (p := ⟨w2.heap.size, 1, none⟩) zw1).trans kb1_1f
                          have HKZ := Lib.hid hKZ
                          have HVZ := Lib.hid hVZ
                          have GWZ := Lib.hid (gg.trans (gzz.mono gg.size))
                          have GBZ := Lib.hid (hbb.out.trans (gzz.mono hbb.out.size))
                          have hzw : w2.heap.size < wz.heap.size := by omega
                          have hn6 : ops.length < 9223372036854775807 := by omega
                          have hb6 : (ops.length + 1) * 56 ≤ 140737488355328 := by omega
                          have hbz : w2.heap.size + 1 ≤ wz.heap.size := by omega
                          have RR := Lib.hid (fun v9 w9 => rr_round (v9 := v9) (w9 := w9) (rv := (.slice (some ⟨cb, cof + (1 + N1) + N2, none⟩) (cur.length - (1 + N1) - N2) (ccap - (1 + N1) - N2))) hj.out hk HSB.out HREST.out GBZ.out hzz c0.out c0f.out c1.out c1f.out g0.out g0f.out hG1 hG1f HX6.out HE6.out (by rw [HSTO.out]; exact HKZ.out) (by exact HVZ.out) GWZ.out (by omega) hzw)
                          clear hxs1 hxs2 gzz hKZ hVZ
                          go_wp2_with (at_builtin; (refine wpList_append_cells (w := wz) (base := w2.heap.size + 1) (e := 43) (size := 3) (v := .slice oo ops.length ocap) (.tmp 96) (.tmp 98) _ rfl rfl i1 _ 56 Try.underlying23 HI1.out HY0.out HY1.out HY2.out rfl (by decide) [.bool false, (.slice ko KY.length kcap), (.slice vo VY.length vcap)] rfl (by intro u hu; simp at hu; rcases hu with rfl | rfl | rfl <;> rfl) rfl rfl HX6.out hn6 hb6 hbz ?_; intro v9 w9 hown9 hg9 hb9; have HREL := Lib.hid (RR.out v9 w9 (by rw [HSTO.out]; exact hown9) hg9); have z9 := hg9.size; have hf9 : w9.frozen? ⟨w2.heap.size, 1, none⟩ = false := (frozen_grown hg9 hzw (fun he => by have := (HX6.out.lt _ he).1; omega)).trans hG1f; have hc9 : w9.cell? ⟨w2.heap.size, 1, none⟩ = some (.slice oo ops.length ocap) := (cell_grown hg9 hzw (fun he => by have := (HX6.out.lt _ he).1; omega)).trans hG1; obtain ⟨o9, c9, rfl, -, -, -, -⟩ := own_form hown9; clear hown9 hg9 hb9))
                          go_wp2_with fail
                          go_roundg (hdMany b - (k + 1))
                          case measure => have := HG.out; omega
                          case rel => exact HREL.out
                      · have HBAD := Lib.hid (HBADX.out (by
                          rw [HSB0.out, HD.out, if_neg (by decide)]
                          unfold textBad
                          rw [show (takeTextF (textRest C)).2.2 = e2 by rw [hT2e], if_neg he2]))
                        have q : (e2 != 0) = true := by simpa using he2
                        clear hT2e he2
                        go_wp2_with fail
                        refine HT2.out.mono ?_
                        rintro e w4 ⟨vv, rfl, hvv, hb4⟩
                        have gz4 := bel_call HGS.out hb4
                        have zo4 : wr.heap.size < (w3.setCell ⟨wr.heap.size, 1, none⟩ (.slice ko KY.length kcap)).heap.size := by simp; omega
                        have kf0 : w4.cell? ⟨wr.heap.size, 0, none⟩ = some (.bool false) := (hb4.cell (p := ⟨wr.heap.size, 0, none⟩) zo4).trans (by go_simp)
                        have kf1 : w4.cell? ⟨wr.heap.size, 1, none⟩ = some (.slice ko KY.length kcap) := (hb4.cell (p := ⟨wr.heap.size, 1, none⟩) zo4).trans (by go_simp)
                        have kf2 : w4.cell? ⟨wr.heap.size, 2, none⟩ = some (.slice none 0 0) := (hb4.cell (p := ⟨wr.heap.size, 2, none⟩) zo4).trans (by go_simp)
                        have kf2f : w4.frozen? ⟨wr.heap.size, 2, none⟩ = false := (hb4.frozen (p := ⟨wr.heap.size, 2, none⟩) zo4).trans (by go_simp)
                        have zo5 : wr.heap.size < w4.heap.size := by have := hb4.size; omega
                        have HK3 := Lib.hid (HK3s.out.below hb4)
                        obtain ⟨vo, vcap, rfl, -, -, -, -⟩ := hvv.form
                        have GW := Lib.hid gz4
                        have kb0_0 := (GW.out.cell (p := ⟨w.heap.size, 0, none⟩) (by simp only; omega)).trans kb0_0
                        have kb0_1 := (GW.out.cell (p := ⟨w.heap.size, 1, none⟩) (by simp only; omega)).trans kb0_1
                        have kb0_0f := (GW.out.frozen (p := ⟨w.heap.size, 0, none⟩) (by simp only; omega)).trans kb0_0f
                        have kb0_1f := (GW.out.frozen (p := ⟨w.heap.size, 1, none⟩) (by simp only; omega)).trans kb0_1f
                        have ggz := gg.trans (gz4.mono gg.size)
                        clear hvv hb4
                        go_wp2_with fail
                        refine bodyPost_ret (v := .tuple #[.agg #[.int .u64 0, .slice none 0 0], .bool false]) (by simp [results, Try.results24, go_sem]; go_simp) rfl ⟨_, ret_read HBAD.out, by rw [HBAD.out]; exact OwnOps.nil _ _, zeros_back ggz⟩
                  · have HBAD := Lib.hid (HBAD1.out (by rw [hT1e]; exact he1))
                    have q : (e1 != 0) = true := by simpa using he1
                    clear hT1e he1
                    go_wp2_with fail
                    refine HT1.out.mono ?_
                    rintro e w3 ⟨kv, rfl, hkv, hb⟩
                    have gz3 := bel_call (bel_alloc (Below.refl _ wr) (.cells #[.bool false, .slice none 0 0, .slice none 0 0] 43)) hb
                    have GW := Lib.hid gz3
                    have kb0_0 := (GW.out.cell (p := ⟨w.heap.size, 0, none⟩) (by simp only; omega)).trans kb0_0
                    have kb0_1 := (GW.out.cell (p := ⟨w.heap.size, 1, none⟩) (by simp only; omega)).trans kb0_1
                    have kb0_0f := (GW.out.frozen (p := ⟨w.heap.size, 0, none⟩) (by simp only; omega)).trans kb0_0f
                    have kb0_1f := (GW.out.frozen (p := ⟨w.heap.size, 1, none⟩) (by simp only; omega)).trans kb0_1f
                    have ggz := gg.trans (gz3.mono gg.size)
                    obtain ⟨ko, kcap, rfl, -, -, -, -⟩ := hkv.form
                    clear hkv hb
                    go_wp2_with fail
                    refine bodyPost_ret (v := .tuple #[.agg #[.int .u64 0, .slice none 0 0], .bool false]) (by simp [results, Try.results24, go_sem]; go_simp) rfl ⟨_, ret_read HBAD.out, by rw [HBAD.out]; exact OwnOps.nil _ _, zeros_back ggz⟩
              · have HD : Hid (stDel cur = true) := Lib.hid (by rw [HDEL.out]; rw [decide_eq_true_iff]; simpa using hxd)
                by_cases hc1 : ccap = 1
                · subst hc1
                  have hCn : C = [] := List.eq_nil_of_length_eq_zero (by omega)
                  have e0 : takeTextF C = ([], 0, 10) := by rw [hCn]; decide
                  have HBAD := Lib.hid (HBAD1.out (by rw [e0]; decide))
                  have hT1 := rTakeText_any (.slice (some ⟨cb, cof, none⟩) 0 0) C (wr.alloc (.cells #[.bool true, .slice none 0 0, .slice none 0 0] 43)) (by rw [hCn]; exact (HC0.out.below hbb.out).alloc _) (by omega)
                  unfold TTPost at hT1
                  rw [e0] at hT1
                  have HT1 := Lib.hid hT1
                  clear hT1 e0 hCn
                  go_wp2_with fail
                  refine HT1.out.mono ?_
                  rintro e w3 ⟨kv, rfl, hkv, hb⟩
                  have gz3 := bel_call (bel_alloc (Below.refl _ wr) (.cells #[.bool true, .slice none 0 0, .slice none 0 0] 43)) hb
                  have GW := Lib.hid gz3
                  have kb0_0 := (GW.out.cell (p := ⟨w.heap.size, 0, none⟩) (by simp only; omega)).trans kb0_0
                  have kb0_1 := (GW.out.cell (p := ⟨w.heap.size, 1, none⟩) (by simp only; omega)).trans kb0_1
                  have kb0_0f := (GW.out.frozen (p := ⟨w.heap.size, 0, none⟩) (by simp only; omega)).trans kb0_0f
                  have kb0_1f := (GW.out.frozen (p := ⟨w.heap.size, 1, none⟩) (by simp only; omega)).trans kb0_1f
                  have ggz := gg.trans (gz3.mono gg.size)
                  obtain ⟨ko, kcap, rfl, -, -, -, -⟩ := hkv.form
                  clear hkv hb
                  go_wp2_with fail
                  refine bodyPost_ret (v := .tuple #[.agg #[.int .u64 0, .slice none 0 0], .bool false]) (by simp [results, Try.results24, go_sem]; go_simp) rfl ⟨_, ret_read HBAD.out, by rw [HBAD.out]; exact OwnOps.nil _ _, zeros_back ggz⟩
                · obtain ⟨⟨KY, n1, e1⟩, hT1e⟩ : ∃ t, takeTextF C = t := ⟨_, rfl⟩
                  have hT1 := rTakeText_any (.slice (some ⟨cb, cof + 1, none⟩) (cur.length - 1) (ccap - 1)) C (wr.alloc (.cells #[.bool true, .slice none 0 0, .slice none 0 0] 43)) (((HCUT.out hc1).below hbb.out).alloc _) (by omega)
                  unfold TTPost at hT1
                  rw [hT1e] at hT1
                  have HT1 := Lib.hid hT1
                  have hb1 := HT1B.out
                  rw [hT1e] at hb1
                  obtain ⟨hb1, hb2, -⟩ := hb1
                  obtain ⟨N1, rfl⟩ := Int.eq_ofNat_of_zero_le hb1
                  have hb3 : N1 ≤ C.length := by simpa using hb2
                  have hcc1 : 1 ≤ ccap := by omega
                  clear hT1 hb1 hb2
                  by_cases he1 : e1 = 0
                  · subst he1
                    have hr1 : textRest C = C.drop N1 := by rw [HT1R.out, hT1e, if_pos rfl]; rfl
                    have hbd1 : textBad C false = false := by rw [HT1E.out, hT1e, if_pos rfl]
                    have hcd : cur.drop (1 + N1) = C.drop N1 := by rw [← HCC.out, List.drop_drop]
                    have HR1 := Lib.hid hr1
                    have HBD1 := Lib.hid hbd1
                    have HTE := Lib.hid hT1e
                    have HCD := Lib.hid hcd
                    have hw2 := IntWalk.i64_in ((1 : Int) + N1) (by omega)
                    have hw3 : ((1 : Int) + N1).toNat = 1 + N1 := by omega
                    have hw4 : 0 ≤ (1 : Int) + N1 := by omega
                    have hw5 : 1 + N1 ≤ ccap := by omega
                    clear hr1 hbd1 hT1e hcd
                    have HSB : Hid (stB cur = false) := Lib.hid (by rw [HSB0.out, HD.out, if_pos rfl, HBD1.out])
                    have HSTO : Hid (stOp cur = (true, KY, [])) := Lib.hid (by rw [HSO0.out, HD.out, HTE.out]; rfl)
                    by_cases hc2 : ccap = 1 + N1
                    · have HREST : Hid (IsB w1 (.slice (some ⟨cb, cof, none⟩) 0 0) (stL cur)) := Lib.hid (by
                        have : C.drop N1 = [] := List.drop_eq_nil_of_le (by omega)
                        rw [HSL0.out, HD.out, if_pos rfl, HR1.out, this]; exact HC0.out)
                      have HC2 := Lib.hid hc2
                      clear hc2
                      go_wp2_with fail
                      refine HT1.out.mono ?_
                      rintro e w3 ⟨kv, rfl, hkv, hb⟩
                      have gz3 := bel_call (bel_alloc (Below.refl _ wr) (.cells #[.bool true, .slice none 0 0, .slice none 0 0] 43)) hb
                      have kd0 : w3.cell? ⟨wr.heap.size, 0, none⟩ = some (.bool true) := (hb.cell (p := ⟨wr.heap.size, 0, none⟩) (by simp)).trans (by go_simp)
                      have kd1 : w3.cell? ⟨wr.heap.size, 1, none⟩ = some (.slice none 0 0) := (hb.cell (p := ⟨wr.heap.size, 1, none⟩) (by simp)).trans (by go_simp)
                      have kd1f : w3.frozen? ⟨wr.heap.size, 1, none⟩ = false := (hb.frozen (p := ⟨wr.heap.size, 1, none⟩) (by simp)).trans (by go_simp)
                      have kd2 : w3.cell? ⟨wr.heap.size, 2, none⟩ = some (.slice none 0 0) := (hb.cell (p := ⟨wr.heap.size, 2, none⟩) (by simp)).trans (by go_simp)
                      have kd2f : w3.frozen? ⟨wr.heap.size, 2, none⟩ = false := (hb.frozen (p := ⟨wr.heap.size, 2, none⟩) (by simp)).trans (by go_simp)
                      have zo3 : wr.heap.size < w3.heap.size := by have := hb.size; simp at this; omega
                      obtain ⟨ko, kcap, rfl, -, -, -, -⟩ := hkv.form
                      have HK3' := Lib.hid hkv
                      have hc2 := HC2.out
                      have hz0 : cur.length - (1 + N1) = 0 := by omega
                      have gzz := gz3.setCell (p := ⟨wr.heap.size, 1, none⟩) (Nat.le_refl _) (.slice ko KY.length kcap)
                      have GZ := Lib.hid gzz
                      have ho5 := hop.out.below gzz
                      have hO0 : (w3.setCell ⟨wr.heap.size, 1, none⟩ (.slice ko KY.length kcap)).cell? ⟨wr.heap.size, 0, none⟩ = some (.bool true) := by go_simp
                      have hO1 : (w3.setCell ⟨wr.heap.size, 1, none⟩ (.slice ko KY.length kcap)).cell? ⟨wr.heap.size, 1, none⟩ = some (.slice ko KY.length kcap) := by go_simp
                      have hO2 : (w3.setCell ⟨wr.heap.size, 1, none⟩ (.slice ko KY.length kcap)).cell? ⟨wr.heap.size, 2, none⟩ = some (.slice none 0 0) := by go_simp
                      have hKZ : OwnS (w3.setCell ⟨wr.heap.size, 1, none⟩ (.slice ko KY.length kcap)) (w2.heap.size + 1) 5 (.slice ko KY.length kcap) KY := ((hkv.kept (gb_one _) (.inr fun e => by have := (hkv.lt _ e).1; simp at this; omega)).mono (by simp; omega))
                      have hVZ : OwnS (w3.setCell ⟨wr.heap.size, 1, none⟩ (.slice ko KY.length kcap)) (w2.heap.size + 1) 5 (.slice none 0 0) (stOp cur).2.2 := (by rw [HSTO.out]; exact OwnS.none)
                      obtain ⟨wz, hwz⟩ : ∃ wz, w3.setCell ⟨wr.heap.size, 1, none⟩ (.slice ko KY.length kcap) = wz := ⟨_, rfl⟩
                      rw [hwz] at gzz GZ ho5 hO0 hO1 hO2 hKZ hVZ
                      have hz6 : wr.heap.size ≤ wz.heap.size := gzz.size
                      obtain ⟨xs, hxs1, hxs2⟩ := ho5
                      have HX6 := Lib.hid hxs1
                      have HE6 := Lib.hid hxs2
                      have c0 := Lib.hid ((gzz.cell (p := ⟨w.heap.size, 0, none⟩) (by simp only; omega)).trans kb0_0)
                      have c0f := Lib.hid ((gzz.frozen (p := ⟨w.heap.size, 0, none⟩) (by simp only; omega)).trans kb0_0f)
                      have c1 := Lib.hid ((gzz.cell (p := ⟨w.heap.size, 1, none⟩) (by simp only; omega)).trans kb0_1)
                      have c1f := Lib.hid ((gzz.frozen (p := ⟨w.heap.size, 1, none⟩) (by simp only; omega)).trans kb0_1f)
                      have g0 := Lib.hid ((gzz.cell (p := ⟨w2.heap.size, 0, none⟩) zw1).trans kb1_0)
                      have g0f := Lib.hid ((gzz.frozen (p := ⟨w2.heap.size, 0, none⟩) zw1).trans kb1_0f)
                      have hG1 := (gzz.cell (p := ⟨w2.heap.size, 1, none⟩) zw1).trans kb1_1
                      have hG1f := (gzz.frozen (p := ⟨w2.heap.size, 1, none⟩) zw1).trans kb1_1f
                      have HKZ := Lib.hid hKZ
                      have HVZ := Lib.hid hVZ
                      have GWZ := Lib.hid (gg.trans (gzz.mono gg.size))
                      have GBZ := Lib.hid (hbb.out.trans (gzz.mono hbb.out.size))
                      have hzw : w2.heap.size < wz.heap.size := by omega
                      have hn6 : ops.length < 9223372036854775807 := by omega
                      have hb6 : (ops.length + 1) * 56 ≤ 140737488355328 := by omega
                      have hbz : w2.heap.size + 1 ≤ wz.heap.size := by omega
                      have RR := Lib.hid (fun v9 w9 => rr_round (v9 := v9) (w9 := w9) (rv := (.slice (some ⟨cb, cof, none⟩) 0 0)) hj.out hk HSB.out HREST.out GBZ.out hzz c0.out c0f.out c1.out c1f.out g0.out g0f.out hG1 hG1f HX6.out HE6.out (by rw [HSTO.out]; exact HKZ.out) (by exact HVZ.out) GWZ.out (by omega) hzw)
                      clear hxs1 hxs2 gzz hKZ hVZ
                      go_wp2_with (at_builtin; (refine wpList_append_cells (w := wz) (base := w2.heap.size + 1) (e := 43) (size := 3) (v := .slice oo ops.length ocap) (.tmp 96) (.tmp 98) _ rfl rfl i1 _ 56 Try.underlying23 HI1.out HY0.out HY1.out HY2.out rfl (by decide) [.bool true, (.slice ko KY.length kcap), (.slice none 0 0)] rfl (by intro u hu; simp at hu; rcases hu with rfl | rfl | rfl <;> rfl) rfl rfl HX6.out hn6 hb6 hbz ?_; intro v9 w9 hown9 hg9 hb9; have HREL := Lib.hid (RR.out v9 w9 (by rw [HSTO.out]; exact hown9) hg9); have z9 := hg9.size; have hf9 : w9.frozen? ⟨w2.heap.size, 1, none⟩ = false := (frozen_grown hg9 hzw (fun he => by have := (HX6.out.lt _ he).1; omega)).trans hG1f; have hc9 : w9.cell? ⟨w2.heap.size, 1, none⟩ = some (.slice oo ops.length ocap) := (cell_grown hg9 hzw (fun he => by have := (HX6.out.lt _ he).1; omega)).trans hG1; obtain ⟨o9, c9, rfl, -, -, -, -⟩ := own_form hown9; clear hown9 hg9 hb9))
                      go_wp2_with fail
                      go_roundg (hdMany b - (k + 1))
                      case measure => have := HG.out; omega
                      case rel => exact HREL.out
                    · have HREST : Hid (IsB w1 (.slice (some ⟨cb, cof + (1 + N1), none⟩) (cur.length - (1 + N1)) (ccap - (1 + N1))) (stL cur)) := Lib.hid (by
                        have := HC.out.cut (1 + N1) (cur.length - (1 + N1)) (by omega)
                        rw [Option.map_some, plain_add', List.take_of_length_le (by rw [List.length_drop]; omega), HCD.out] at this
                        rw [HSL0.out, HD.out, if_pos rfl, HR1.out]; exact this)
                      go_wp2_with fail
                      refine HT1.out.mono ?_
                      rintro e w3 ⟨kv, rfl, hkv, hb⟩
                      have gz3 := bel_call (bel_alloc (Below.refl _ wr) (.cells #[.bool true, .slice none 0 0, .slice none 0 0] 43)) hb
                      have kd0 : w3.cell? ⟨wr.heap.size, 0, none⟩ = some (.bool true) := (hb.cell (p := ⟨wr.heap.size, 0, none⟩) (by simp)).trans (by go_simp)
                      have kd1 : w3.cell? ⟨wr.heap.size, 1, none⟩ = some (.slice none 0 0) := (hb.cell (p := ⟨wr.heap.size, 1, none⟩) (by simp)).trans (by go_simp)
                      have kd1f : w3.frozen? ⟨wr.heap.size, 1, none⟩ = false := (hb.frozen (p := ⟨wr.heap.size, 1, none⟩) (by simp)).trans (by go_simp)
                      have kd2 : w3.cell? ⟨wr.heap.size, 2, none⟩ = some (.slice none 0 0) := (hb.cell (p := ⟨wr.heap.size, 2, none⟩) (by simp)).trans (by go_simp)
                      have kd2f : w3.frozen? ⟨wr.heap.size, 2, none⟩ = false := (hb.frozen (p := ⟨wr.heap.size, 2, none⟩) (by simp)).trans (by go_simp)
                      have zo3 : wr.heap.size < w3.heap.size := by have := hb.size; simp at this; omega
                      obtain ⟨ko, kcap, rfl, -, -, -, -⟩ := hkv.form
                      have HK3' := Lib.hid hkv
                      have gzz := gz3.setCell (p := ⟨wr.heap.size, 1, none⟩) (Nat.le_refl _) (.slice ko KY.length kcap)
                      have GZ := Lib.hid gzz
                      have ho5 := hop.out.below gzz
                      have hO0 : (w3.setCell ⟨wr.heap.size, 1, none⟩ (.slice ko KY.length kcap)).cell? ⟨wr.heap.size, 0, none⟩ = some (.bool true) := by go_simp
                      have hO1 : (w3.setCell ⟨wr.heap.size, 1, none⟩ (.slice ko KY.length kcap)).cell? ⟨wr.heap.size, 1, none⟩ = some (.slice ko KY.length kcap) := by go_simp
                      have hO2 : (w3.setCell ⟨wr.heap.size, 1, none⟩ (.slice ko KY.length kcap)).cell? ⟨wr.heap.size, 2, none⟩ = some (.slice none 0 0) := by go_simp
                      have hKZ : OwnS (w3.setCell ⟨wr.heap.size, 1, none⟩ (.slice ko KY.length kcap)) (w2.heap.size + 1) 5 (.slice ko KY.length kcap) KY := ((hkv.kept (gb_one _) (.inr fun e => by have := (hkv.lt _ e).1; simp at this; omega)).mono (by simp; omega))
                      have hVZ : OwnS (w3.setCell ⟨wr.heap.size, 1, none⟩ (.slice ko KY.length kcap)) (w2.heap.size + 1) 5 (.slice none 0 0) (stOp cur).2.2 := (by rw [HSTO.out]; exact OwnS.none)
                      obtain ⟨wz, hwz⟩ : ∃ wz, w3.setCell ⟨wr.heap.size, 1, none⟩ (.slice ko KY.length kcap) = wz := ⟨_, rfl⟩
                      rw [hwz] at gzz GZ ho5 hO0 hO1 hO2 hKZ hVZ
                      have hz6 : wr.heap.size ≤ wz.heap.size := gzz.size
                      obtain ⟨xs, hxs1, hxs2⟩ := ho5
                      have HX6 := Lib.hid hxs1
                      have HE6 := Lib.hid hxs2
                      have c0 := Lib.hid ((gzz.cell (p := ⟨w.heap.size, 0, none⟩) (by simp only; omega)).trans kb0_0)
                      have c0f := Lib.hid ((gzz.frozen (p := ⟨w.heap.size, 0, none⟩) (by simp only; omega)).trans kb0_0f)
                      have c1 := Lib.hid ((gzz.cell (p := ⟨w.heap.size, 1, none⟩) (by simp only; omega)).trans kb0_1)
                      have c1f := Lib.hid ((gzz.frozen (p := ⟨w.heap.size, 1, none⟩) (by simp only; omega)).trans kb0_1f)
                      have g0 := Lib.hid ((gzz.cell (p := ⟨w2.heap.size, 0, none⟩) zw1).trans kb1_0)
                      have g0f := Lib.hid ((gzz.frozen (p := ⟨w2.heap.size, 0, none⟩) zw1).trans kb1_0f)
                      have hG1 := (gzz.cell (p := ⟨w2.heap.size, 1, none⟩) zw1).trans kb1_1
                      have hG1f := (gzz.frozen (p := ⟨w2.heap.size, 1, none⟩) zw1).trans kb1_1f
                      have HKZ := Lib.hid hKZ
                      have HVZ := Lib.hid hVZ
                      have GWZ := Lib.hid (gg.trans (gzz.mono gg.size))
                      have GBZ := Lib.hid (hbb.out.trans (gzz.mono hbb.out.size))
                      have hzw : w2.heap.size < wz.heap.size := by omega
                      have hn6 : ops.length < 9223372036854775807 := by omega
                      have hb6 : (ops.length + 1) * 56 ≤ 140737488355328 := by omega
                      have hbz : w2.heap.size + 1 ≤ wz.heap.size := by omega
                      have RR := Lib.hid (fun v9 w9 => rr_round (v9 := v9) (w9 := w9) (rv := (.slice (some ⟨cb, cof + (1 + N1), none⟩) (cur.length - (1 + N1)) (ccap - (1 + N1)))) hj.out hk HSB.out HREST.out GBZ.out hzz c0.out c0f.out c1.out c1f.out g0.out g0f.out hG1 hG1f HX6.out HE6.out (by rw [HSTO.out]; exact HKZ.out) (by exact HVZ.out) GWZ.out (by omega) hzw)
                      clear hxs1 hxs2 gzz hKZ hVZ
                      go_wp2_with (at_builtin; (refine wpList_append_cells (w := wz) (base := w2.heap.size + 1) (e := 43) (size := 3) (v := .slice oo ops.length ocap) (.tmp 96) (.tmp 98) _ rfl rfl i1 _ 56 Try.underlying23 HI1.out HY0.out HY1.out HY2.out rfl (by decide) [.bool true, (.slice ko KY.length kcap), (.slice none 0 0)] rfl (by intro u hu; simp at hu; rcases hu with rfl | rfl | rfl <;> rfl) rfl rfl HX6.out hn6 hb6 hbz ?_; intro v9 w9 hown9 hg9 hb9; have HREL := Lib.hid (RR.out v9 w9 (by rw [HSTO.out]; exact hown9) hg9); have z9 := hg9.size; have hf9 : w9.frozen? ⟨w2.heap.size, 1, none⟩ = false := (frozen_grown hg9 hzw (fun he => by have := (HX6.out.lt _ he).1; omega)).trans hG1f; have hc9 : w9.cell? ⟨w2.heap.size, 1, none⟩ = some (.slice oo ops.length ocap) := (cell_grown hg9 hzw (fun he => by have := (HX6.out.lt _ he).1; omega)).trans hG1; obtain ⟨o9, c9, rfl, -, -, -, -⟩ := own_form hown9; clear hown9 hg9 hb9))
                      go_wp2_with fail
                      go_roundg (hdMany b - (k + 1))
                      case measure => have := HG.out; omega
                      case rel => exact HREL.out
                  · have HBAD := Lib.hid (HBAD1.out (by rw [hT1e]; exact he1))
                    have q : (e1 != 0) = true := by simpa using he1
                    clear hT1e he1
                    go_wp2_with fail
                    refine HT1.out.mono ?_
                    rintro e w3 ⟨kv, rfl, hkv, hb⟩
                    have gz3 := bel_call (bel_alloc (Below.refl _ wr) (.cells #[.bool true, .slice none 0 0, .slice none 0 0] 43)) hb
                    have GW := Lib.hid gz3
                    have kb0_0 := (GW.out.cell (p := ⟨w.heap.size, 0, none⟩) (by simp only; omega)).trans kb0_0
                    have kb0_1 := (GW.out.cell (p := ⟨w.heap.size, 1, none⟩) (by simp only; omega)).trans kb0_1
                    have kb0_0f := (GW.out.frozen (p := ⟨w.heap.size, 0, none⟩) (by simp only; omega)).trans kb0_0f
                    have kb0_1f := (GW.out.frozen (p := ⟨w.heap.size, 1, none⟩) (by simp only; omega)).trans kb0_1f
                    have ggz := gg.trans (gz3.mono gg.size)
                    obtain ⟨ko, kcap, rfl, -, -, -, -⟩ := hkv.form
                    clear hkv hb
                    go_wp2_with fail
                    refine bodyPost_ret (v := .tuple #[.agg #[.int .u64 0, .slice none 0 0], .bool false]) (by simp [results, Try.results24, go_sem]; go_simp) rfl ⟨_, ret_read HBAD.out, by rw [HBAD.out]; exact OwnOps.nil _ _, zeros_back ggz⟩
          · have hkm : k = hdMany b := by have := (hj.out.2 rfl).1; omega
            have hk1 : ¬ (k : Int) < hdMany b := by omega
            have hpr := rdJ_pr hj.out hk
            have hRR : rrdRes b = if (encF (hdSeq b) ops).2 ≠ 0 then (0, [], false) else (hdSeq b, ops, decide ((encF (hdSeq b) ops).1 = frameF 66 b)) := by
              unfold rrdRes
              rw [hpr, if_neg (by rintro (h | h | h); exact absurd h (by rw [HDB.out]; decide); omega; exact absurd h (by simp))]
            have HENC := Lib.hid (rEncode_any (hdSeq b) hs64 _ ops wr hop.out.isOps)
            unfold EncPost at HENC
            have HRR := Lib.hid hRR
            have HCS := Lib.hid (encF_cases (hdSeq b) ops)
            generalize encF (hdSeq b) ops = R at *
            obtain ⟨x, er⟩ := R
            simp only at HRR HCS
            clear hpr hRR hcur
            go_wp2_with fail
            refine HENC.out.mono ?_
            rintro e w3 ⟨ev, rfl, hev, hb⟩
            have HE := Lib.hid hev
            obtain ⟨eo, ecap, rfl, -, -, -, -⟩ := hev.form
            have GW := Lib.hid hb
            have kb0_0 := (GW.out.cell (p := ⟨w.heap.size, 0, none⟩) zr1).trans kb0_0
            have kb0_1 := (GW.out.cell (p := ⟨w.heap.size, 1, none⟩) zr1).trans kb0_1
            have kb0_0f := (GW.out.frozen (p := ⟨w.heap.size, 0, none⟩) zr1).trans kb0_0f
            have kb0_1f := (GW.out.frozen (p := ⟨w.heap.size, 1, none⟩) zr1).trans kb0_1f
            have L0 := (GW.out.cell (p := ⟨w2.heap.size, 0, none⟩) zw1).trans kb1_0
            have L1 := (GW.out.cell (p := ⟨w2.heap.size, 1, none⟩) zw1).trans kb1_1
            have ggz := gg.trans (hb.mono gg.size)
            have HOP := Lib.hid (hop.out.below hb)
            have z3 := hb.size
            clear hev hb kb1_0 kb1_1 kb1_0f kb1_1f
            by_cases he : er = 0
            · subst he
              have HBW := Lib.hid (HB.out.below ggz)
              have HFR := Lib.hid (rFrame_ok 66 (by decide) _ b w3 HBW.out hl)
              unfold FramePost at HFR
              have HRGF : Rng (frameF 66 b) := frameF_rng (by decide) HB.out.rng
              have HJ2' : rrdRes b = (hdSeq b, ops, decide (x = frameF 66 b)) := by rw [HRR.out]; simp
              obtain ⟨FB, hFB⟩ : ∃ FB, frameF 66 b = FB := ⟨_, rfl⟩
              rw [hFB] at HFR HJ2' HRGF
              have HJ2 := Lib.hid HJ2'
              clear HCS hFB HJ2'
              go_wp2_with fail
              refine HFR.out.mono ?_
              rintro e w4 ⟨fv, rfl, hfv, hb⟩
              have hfS := OwnS.of_own hfv HRGF
              obtain ⟨fo, fcap, rfl, -, -, -, -⟩ := own_form hfv
              have hxB := (HE.out.below hb).isB
              have hfB := hfS.isB
              have c1 := (show IsB w4.drew _ _ from hxB).conv Try.underlying28 Try.underlying5 Try.underlying9
              have c2 := (show IsB w4.drew _ _ from hfB).conv Try.underlying28 Try.underlying5 Try.underlying9
              have hsA : w4.grownBy ((w4.setCell ⟨w.heap.size, 0, none⟩ (.int .u64 (hdSeq b))).setCell ⟨w.heap.size, 1, none⟩ (.slice oo ops.length ocap)) (some w.heap.size) := gb_set (gb_set (gb_refl w4 (some w.heap.size)) (.inl rfl) _) (.inl rfl) _
              have c4 := (show IsB ((w4.setCell ⟨w.heap.size, 0, none⟩ (.int .u64 (hdSeq b))).setCell ⟨w.heap.size, 1, none⟩ (.slice oo ops.length ocap)).drew _ _ from ((HE.out.below hb).kept hsA (.inr fun e => by have := ((HE.out.below hb).lt _ e).1; omega)).isB).conv Try.underlying28 Try.underlying5 Try.underlying9
              have c5 := (show IsB ((w4.setCell ⟨w.heap.size, 0, none⟩ (.int .u64 (hdSeq b))).setCell ⟨w.heap.size, 1, none⟩ (.slice oo ops.length ocap)).drew _ _ from (hfS.kept hsA (.inr fun e => by have := (hfS.lt _ e).1; omega)).isB).conv Try.underlying28 Try.underlying5 Try.underlying9
              clear hxB hfB hsA
              have c3 := str_beq HE.out.rng hfS.rng
              have M0 := (hb.cell (p := ⟨w.heap.size, 0, none⟩) (show w.heap.size < w3.heap.size by omega)).trans kb0_0
              have M1 := (hb.cell (p := ⟨w.heap.size, 1, none⟩) (show w.heap.size < w3.heap.size by omega)).trans kb0_1
              have M0f := (hb.frozen (p := ⟨w.heap.size, 0, none⟩) (show w.heap.size < w3.heap.size by omega)).trans kb0_0f
              have M1f := (hb.frozen (p := ⟨w.heap.size, 1, none⟩) (show w.heap.size < w3.heap.size by omega)).trans kb0_1f
              have N0 := (hb.cell (p := ⟨w2.heap.size, 0, none⟩) (show w2.heap.size < w3.heap.size by omega)).trans L0
              have N1 := (hb.cell (p := ⟨w2.heap.size, 1, none⟩) (show w2.heap.size < w3.heap.size by omega)).trans L1
              have G4 := ggz.trans (hb.mono ggz.size)
              have HGFIN := Lib.hid ((G4.drew.setCell (p := ⟨w.heap.size, 0, none⟩) (Nat.le_refl _) (.int .u64 (hdSeq b))).setCell (p := ⟨w.heap.size, 1, none⟩) (Nat.le_refl _) (.slice oo ops.length ocap))
              have z4 := hb.size
              have HFIN := Lib.hid ((((HOP.out.below hb).set (p := ⟨w.heap.size, 0, none⟩) (by simp only; omega) (by simp only; omega) (.int .u64 (hdSeq b))).set (p := ⟨w.heap.size, 1, none⟩) (by simp only; omega) (by simp; omega) (.slice oo ops.length ocap)).mono (show w.heap.size ≤ w2.heap.size + 1 by omega))
              have hne1 : w2.heap.size ≠ w.heap.size := by omega
              have hne2 : w.heap.size ≠ w2.heap.size := by omega
              clear hfv hb hfS kb0_0 kb0_1 kb0_0f kb0_1f L0 L1 G4
              go_wp2_with fail
              go_region
              all_goals go_wp2_with fail
              all_goals (refine bodyPost_ret (v := .tuple #[.agg #[.int .u64 (hdSeq b), .slice oo ops.length ocap], .bool (decide (x = FB))]) (by simp [results, Try.results24, go_sem]; go_simp) rfl ⟨_, ret_read HJ2.out, by rw [HJ2.out]; exact HFIN.out, HGFIN.out⟩)
            · have HBAD : Hid (rrdRes b = (0, [], false)) := Lib.hid (by rw [HRR.out, if_pos he])
              have q : (er != 0) = true := by simpa using he
              clear he HCS
              go_wp2_with fail
              refine bodyPost_ret (v := .tuple #[.agg #[.int .u64 0, .slice none 0 0], .bool false]) (by simp [results, Try.results24, go_sem]; go_simp) rfl ⟨_, ret_read HBAD.out, by rw [HBAD.out]; exact OwnOps.nil _ _, zeros_back ggz⟩

    · rw [if_neg he2, decide_eq_false he2] at HR1
      rw [if_neg he2] at hN2
      have HBAD := Lib.hid (rrd_bad (.inl hN2))
      have HR1 := Lib.hid HR1
      clear hrv hBdef hN1 hN2
      go_wp2_with fail
      refine (HR1.out).mono ?_
      rintro e w3 ⟨rv, rfl, hrv, hb⟩
      replace kb0_0 : w3.cell? ⟨w.heap.size, 0, none⟩ = some (.int .u64 0) := (hb.cell (p := ⟨w.heap.size, 0, none⟩) (by simp <;> omega)).trans (by go_simp)
      replace kb0_0f : w3.frozen? ⟨w.heap.size, 0, none⟩ = false := (hb.frozen (p := ⟨w.heap.size, 0, none⟩) (by simp <;> omega)).trans (by go_simp)
      replace kb0_1 : w3.cell? ⟨w.heap.size, 1, none⟩ = some (.slice none 0 0) := (hb.cell (p := ⟨w.heap.size, 1, none⟩) (by simp <;> omega)).trans (by go_simp)
      replace kb0_1f : w3.frozen? ⟨w.heap.size, 1, none⟩ = false := (hb.frozen (p := ⟨w.heap.size, 1, none⟩) (by simp <;> omega)).trans (by go_simp)
      have zb3 := hb.size; (try simp at zb3)
      replace zz : w.heap.size ≤ w3.heap.size := by omega
      replace ybw_heap_size : w.heap.size < w3.heap.size := by omega
      replace gg : Below w.heap.size w w3 := (by repeat' (first | (with_reducible exact Below.refl _ _) | (with_reducible assumption) | (with_reducible refine Below.drew ?_) | (with_reducible refine below_drewN ?_ _) | (with_reducible refine bel_alloc ?_ _) | (with_reducible refine Below.setCell ?_ ?_ _) | (with_reducible refine bel_call ?_ (by assumption)) | (simp <;> omega)))
      have HQ3 := Lib.hid hb
      clear hb
      obtain ⟨ro2, rc2, rfl, -, -, -⟩ := hrv.form
      clear hrv
      go_wp2_with fail
      refine bodyPost_ret (v := .tuple #[.agg #[.int .u64 0, .slice none 0 0], .bool false]) (by simp [results, Try.results24, go_sem]; go_simp) rfl ⟨_, ret_read HBAD.out, by rw [HBAD.out]; exact OwnOps.nil _ _, zeros_back gg⟩
  · rw [if_neg he1, decide_eq_false he1] at HR0
    rw [if_neg he1] at hN1
    rw [hN1, numBad_true] at hBdef
    have HBAD := Lib.hid (rrd_bad (.inl hBdef))
    have HR0 := Lib.hid HR0
    clear hBdef hN1
    go_enter Try.func24, Try.ntmps24
    -- boxes
    go_wp2_with fail
    refine (HR0.out).mono ?_
    rintro e w1 ⟨rv, rfl, hrv, hb⟩
    replace kb0_0 : w1.cell? ⟨w.heap.size, 0, none⟩ = some (.int .u64 0) := (hb.cell (p := ⟨w.heap.size, 0, none⟩) (by simp <;> omega)).trans (by go_simp)
    replace kb0_0f : w1.frozen? ⟨w.heap.size, 0, none⟩ = false := (hb.frozen (p := ⟨w.heap.size, 0, none⟩) (by simp <;> omega)).trans (by go_simp)
    replace kb0_1 : w1.cell? ⟨w.heap.size, 1, none⟩ = some (.slice none 0 0) := (hb.cell (p := ⟨w.heap.size, 1, none⟩) (by simp <;> omega)).trans (by go_simp)
    replace kb0_1f : w1.frozen? ⟨w.heap.size, 1, none⟩ = false := (hb.frozen (p := ⟨w.heap.size, 1, none⟩) (by simp <;> omega)).trans (by go_simp)
    have zb1 := hb.size; (try simp at zb1)
    replace zz : w.heap.size ≤ w1.heap.size := by omega
    replace ybw_heap_size : w.heap.size < w1.heap.size := by omega
    replace gg : Below w.heap.size w w1 := (by repeat' (first | (with_reducible exact Below.refl _ _) | (with_reducible assumption) | (with_reducible refine Below.drew ?_) | (with_reducible refine below_drewN ?_ _) | (with_reducible refine bel_alloc ?_ _) | (with_reducible refine Below.setCell ?_ ?_ _) | (with_reducible refine bel_call ?_ (by assumption)) | (simp <;> omega)))
    have HQ1 := Lib.hid hb
    clear hb
    have HR1 := rNum_any _ [] w1 (hrv.below HQ1.out)
    unfold RnPost at HR1
    have e0 : takeN [] = (0, 0, 10) := by decide
    rw [e0, if_neg (by decide)] at HR1
    have HR1 := Lib.hid HR1
    obtain ⟨ro, rc, rfl, -, -, -⟩ := hrv.form
    clear hrv e0
    go_wp2_with fail
    refine (HR1.out).mono ?_
    rintro e w2 ⟨rv, rfl, hrv, hb⟩
    replace kb0_0 : w2.cell? ⟨w.heap.size, 0, none⟩ = some (.int .u64 0) := (hb.cell (p := ⟨w.heap.size, 0, none⟩) (by simp <;> omega)).trans (by go_simp)
    replace kb0_0f : w2.frozen? ⟨w.heap.size, 0, none⟩ = false := (hb.frozen (p := ⟨w.heap.size, 0, none⟩) (by simp <;> omega)).trans (by go_simp)
    replace kb0_1 : w2.cell? ⟨w.heap.size, 1, none⟩ = some (.slice none 0 0) := (hb.cell (p := ⟨w.heap.size, 1, none⟩) (by simp <;> omega)).trans (by go_simp)
    replace kb0_1f : w2.frozen? ⟨w.heap.size, 1, none⟩ = false := (hb.frozen (p := ⟨w.heap.size, 1, none⟩) (by simp <;> omega)).trans (by go_simp)
    have zb2 := hb.size; (try simp at zb2)
    replace zz : w.heap.size ≤ w2.heap.size := by omega
    replace ybw_heap_size : w.heap.size < w2.heap.size := by omega
    replace gg : Below w.heap.size w w2 := (by repeat' (first | (with_reducible exact Below.refl _ _) | (with_reducible assumption) | (with_reducible refine Below.drew ?_) | (with_reducible refine below_drewN ?_ _) | (with_reducible refine bel_alloc ?_ _) | (with_reducible refine Below.setCell ?_ ?_ _) | (with_reducible refine bel_call ?_ (by assumption)) | (simp <;> omega)))
    have HQ2 := Lib.hid hb
    clear hb
    obtain ⟨ro2, rc2, rfl, -, -, -⟩ := hrv.form
    clear hrv
    go_wp2_with fail
    refine bodyPost_ret (v := .tuple #[.agg #[.int .u64 0, .slice none 0 0], .bool false]) (by simp [results, Try.results24, go_sem]; go_simp) rfl ⟨_, ret_read HBAD.out, by rw [HBAD.out]; exact OwnOps.nil _ _, zeros_back gg⟩
end Wal
end Go.Proofs.Ytlfelpbcnpjneaa
