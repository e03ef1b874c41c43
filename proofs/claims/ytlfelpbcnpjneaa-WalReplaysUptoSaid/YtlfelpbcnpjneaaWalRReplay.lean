/- wal: the document's Replay. -/
import Derived.Test.YtlfelpbcnpjneaaWalReplay
import Derived.Test.YtlfelpbcnpjneaaWalRRead2
namespace Go.Proofs.Ytlfelpbcnpjneaa
open Go.RowKit
namespace Wal
open Codec
set_option maxRecDepth 100000 in
set_option maxHeartbeats 4000000 in
theorem rReplay_any (v : Value) (l : List Int) (w : World) (h : IsB w v l) (hl : l.length ≤ 1099511627776) :
    Calls Try.prog 11 #[v] w (RepPost l w) := by
  obtain ⟨ao, cap, rfl, hnc, hcap, -⟩ := h.form
  have HB := Lib.hid h
  have HJ0 := Lib.hid (repJ_start l)
  obtain ⟨i1, hi1, hy0, hy1, hy2⟩ := info_parts infoBat
  have HI1 := Lib.hid hi1; have HY0 := Lib.hid hy0; have HY1 := Lib.hid hy1; have HY2 := Lib.hid hy2
  clear hi1 hy0 hy1 hy2 h
  go_enter Try.func11, Try.ntmps11
  go_wp2_with fail
  go_loopg [5, 6] (l.length) (fun gk ov i wr => ∃ (at_ nx : Nat) (bats : List Bat), gk = l.length - at_ ∧ i = .int .i64 at_ ∧ Hid (repJ l at_ nx bats) ∧ Hid (OwnBats wr w.heap.size ov bats) ∧ Hid (Below w.heap.size w wr))
  case atStart => exact ⟨0, 0, [], rfl, rfl, HJ0.out, OwnBats.nil _ _, Below.refl _ _⟩
  case round =>
    obtain ⟨at_, nx, bats, hgk, rfl, hj, hown, hbel⟩ := hrel
    obtain ⟨xs, hxs1, hxs2⟩ := hown.out
    have HX1 := Lib.hid hxs1
    have HX2 := Lib.hid hxs2
    obtain ⟨oo, ocap, rfl, -, -, -, -⟩ := own_form hxs1
    have hjl := hj.out.1
    have hbl := hj.out.2.1
    have hnx := hj.out.2.2.1
    have HNX0 := Lib.hid hj.out.2.2.2.1
    have HLAST := Lib.hid hj.out.2.2.2.2.1
    clear hxs1 hxs2
    by_cases hlt : at_ < l.length
    · have hk0 : (at_ : Int) < l.length := by omega
      have hk1 : 0 ≤ (at_ : Int) := by omega
      have HG := Lib.hid hgk
      clear hgk
      obtain ⟨bb, bo, rfl, hbb⟩ : ∃ b o, ao = some ⟨b, o, none⟩ ∧ b < w.heap.size := by
        obtain ⟨b, o, _, e, hb, -, -, -, -⟩ := HB.out.at_ (k := at_) hlt
        exact ⟨b, o, e, hb⟩
      have HBW := Lib.hid (HB.out.below hbel.out)
      have hcut := HBW.out.cut at_ (l.length - at_) (by omega)
      rw [List.take_of_length_le (by rw [List.length_drop]; omega), Option.map_some, plain_add'] at hcut
      have HT := Lib.hid (rTakeFrame_any _ (l.drop at_) wr hcut (by rw [List.length_drop]; omega))
      obtain ⟨⟨k, body, n, e⟩, hT⟩ : ∃ t, takeFrameF (l.drop at_) = t := ⟨_, rfl⟩
      have hrng := HB.out.rng
      unfold TFPost at HT
      clear hcut
      by_cases he : e = 0
      · subst he
        have hc := takeFrameF_canon (hrng.drop at_) hT
        obtain ⟨hfr, hn, hb21, hnl, hn6, -, -⟩ := hc
        have hn0 : 0 ≤ n := by omega
        obtain ⟨N, rfl⟩ := Int.eq_ofNat_of_zero_le hn0
        rw [Int.toNat_natCast, List.length_drop] at hnl
        rw [Int.toNat_natCast] at hn6 hfr
        have he0 : (takeFrameF (l.drop at_)).2.2.2 = 0 := by rw [hT]
        have hform := repJ_form hj.out hlt he0
        have hseq := repJ_seq hj.out hlt he0
        have hstep := repJ_step hrng hj.out hlt he0
        rw [hT] at hform hseq hstep HT
        simp only [Int.toNat_natCast] at hform hseq hstep HT
        rw [hfr] at hform hseq hstep
        have hsame := rd_same (k := k) body
        obtain ⟨⟨s, ops, is_⟩, hR⟩ : ∃ t, rrdRes body = t := ⟨_, rfl⟩
        rw [hR] at hsame
        simp only at hsame
        have hbad : ¬ (k = 66 ∧ is_ = true) → rep l = (bats, at_, 63) := fun h => hform (by
          cases hc : (rdRes (frameF k body) body).2.2
          · rfl
          · exact absurd (hsame.1.1 hc) h)
        have hgood : k = 66 → is_ = true → rdRes (frameF k body) body = (s, ops, is_) := hsame.2
        have HBAD := Lib.hid hbad
        have HGOOD := Lib.hid hgood
        have HSEQ := Lib.hid hseq
        have HSTEP := Lib.hid hstep
        have HRR := Lib.hid hR
        clear hform hseq hstep hR he0 hT hrng hn hfr hsame hbad hgood
        go_wp2_with fail
        refine HT.out.mono ?_
        rintro e w1 ⟨bv, rfl, hbv, g1⟩
        have HBV := Lib.hid hbv.isB
        obtain ⟨vo, vcap, rfl, -, -, -, -⟩ := hbv.form
        have HRD := Lib.hid (rRead_any _ body w1 HBV.out hb21)
        have G1 := Lib.hid (hbel.out.trans (g1.mono hbel.out.size))
        have HX11 := Lib.hid (own_below HX1.out g1)
        have HX21 : Hid (∀ i x, bats[i]? = some x → ∃ ov, xs[i * 2]? = some (.int .u64 x.1) ∧ xs[i * 2 + 1]? = some ov ∧ OwnOps w1 w.heap.size ov x.2 ∧ x.1 < 18446744073709551616) := Lib.hid (fun i x hx => by
          obtain ⟨ov, k1, k2, k3, k4⟩ := HX2.out i x hx
          exact ⟨ov, k1, k2, k3.below g1, k4⟩)
        unfold RReadPost at HRD
        rw [HRR.out] at HRD
        simp only at HRD
        have hcc : at_ ≤ cap ∧ at_ + N ≤ cap ∧ at_ + N ≤ l.length := by omega
        obtain ⟨hc1, hc2, hc3⟩ := hcc
        have hs1 := IntWalk.i64_in ((at_ : Int) + N) (by omega)
        clear hbv g1
        go_wp2_with fail
        refine HRD.out.mono ?_
        rintro e w2 ⟨ov, rfl, hov, g2⟩
        obtain ⟨ys, hys, -⟩ := id hov
        obtain ⟨o2, c2, rfl, -, -, -, -⟩ := own_form hys
        have z1 := G1.out.size
        have z2 := g2.size
        have HOV := Lib.hid ((hov.mono z1).below ((Below.refl _ w2).alloc (Nat.le_refl _) (.cells #[.int .u64 s, .slice o2 ops.length c2] 25)))
        have G2' := bel_call G1.out g2
        have G2 := Lib.hid (bel_alloc G2' (.cells #[.int .u64 s, .slice o2 ops.length c2] 25))
        have gg2 := bel_alloc g2 (.cells #[.int .u64 s, .slice o2 ops.length c2] 25)
        have HX12 := Lib.hid (own_below HX11.out gg2)
        have HX22 : Hid (∀ i x, bats[i]? = some x → ∃ ov, xs[i * 2]? = some (.int .u64 x.1) ∧ xs[i * 2 + 1]? = some ov ∧ OwnOps (w2.alloc (.cells #[.int .u64 s, .slice o2 ops.length c2] 25)) w.heap.size ov x.2 ∧ x.1 < 18446744073709551616) := Lib.hid (fun i x hx => by
          obtain ⟨ov, k1, k2, k3, k4⟩ := HX21.out i x hx
          exact ⟨ov, k1, k2, k3.below gg2, k4⟩)
        have HB2 : Hid (OwnBats w2 w.heap.size (.slice oo bats.length ocap) bats) := Lib.hid ⟨xs, own_below HX11.out g2, fun i x hx => by
          obtain ⟨ov, k1, k2, k3, k4⟩ := HX21.out i x hx
          exact ⟨ov, k1, k2, k3.below g2, k4⟩⟩
        have HB2' := Lib.hid (HB2.out.below ((Below.refl _ w2).alloc (Nat.le_refl _) (.cells #[.int .u64 s, .slice o2 ops.length c2] 25)))
        have hW0 : (w2.alloc (.cells #[.int .u64 s, .slice o2 ops.length c2] 25)).cell? ⟨w2.heap.size, 0, none⟩ = some (.int .u64 s) := by go_simp
        have hW1 : (w2.alloc (.cells #[.int .u64 s, .slice o2 ops.length c2] 25)).cell? ⟨w2.heap.size, 1, none⟩ = some (.slice o2 ops.length c2) := by go_simp
        have hzW : w2.heap.size < (w2.alloc (.cells #[.int .u64 s, .slice o2 ops.length c2] 25)).heap.size := by simp
        obtain ⟨W, hW⟩ : ∃ W, w2.alloc (.cells #[.int .u64 s, .slice o2 ops.length c2] 25) = W := ⟨_, rfl⟩
        rw [hW] at HOV G2 HX12 HX22 HB2' hW0 hW1 hzW
        clear hys hov g2 G2' gg2
        by_cases hg : k = 66 ∧ is_ = true
        · obtain ⟨rfl, rfl⟩ := hg
          have hgd := HGOOD.out rfl rfl
          have hok : (encF s ops).2 = 0 := by
            have := rdRes_ok (f := frameF 66 body) (b := body) (by rw [hgd])
            rw [hgd] at this
            exact this
          have hok := encF_ok hok
          obtain ⟨-, k2, k3, -, k5, k6, -⟩ := hok
          have hseq := HSEQ.out
          have hstep := HSTEP.out
          rw [hgd] at hseq hstep
          have HSEQ := Lib.hid (hseq rfl)
          have HSTEP := Lib.hid (hstep rfl)
          clear hgd hseq hstep
          have hb5 : (bats.length + 1) * 32 ≤ 140737488355328 := by omega
          have hb6 : bats.length < 9223372036854775807 := by omega
          have hb7 : w.heap.size ≤ W.heap.size := G2.out.size
          have hs64 : s < 18446744073709551616 := by omega
          have HN := Lib.hid (show l.length - (at_ + N) < l.length - at_ by omega)
          rcases Nat.eq_zero_or_pos bats.length with hbz | hbp
          · have hbn : bats = [] := List.eq_nil_of_length_eq_zero hbz
            have hnz : nx = 0 := HNX0.out.2 hbn
            have HJ := Lib.hid (HSTEP.out (by rintro ⟨h, -⟩; omega))
            clear hnz hbz hb5 hb6
            subst hbn
            go_wp2_with fail
            go_quiet (fail)
            have hD : Below W.heap.size W (W.drewN nq) := below_drewN (Below.refl _ _) nq
            have hXZ : (W.drewN nq).ownsRow w.heap.size 25 2 (.slice oo ([] : List Bat).length ocap) ([] : List Bat).length xs := own_below HX12.out hD
            have hEZ : ∀ i x, ([] : List Bat)[i]? = some x → ∃ ov, xs[i * 2]? = some (.int .u64 x.1) ∧ xs[i * 2 + 1]? = some ov ∧ OwnOps (W.drewN nq) w.heap.size ov x.2 ∧ x.1 < 18446744073709551616 := fun i x hx => by
              obtain ⟨ov, k1, k2, k3, k4⟩ := HX22.out i x hx
              exact ⟨ov, k1, k2, k3.below hD, k4⟩
            have hOZ := HOV.out.below hD
            have hGZ := G2.out.trans (hD.mono hb7)
            have hZ0 := (hD.cell (p := ⟨w2.heap.size, 0, none⟩) hzW).trans hW0
            have hZ1 := (hD.cell (p := ⟨w2.heap.size, 1, none⟩) hzW).trans hW1
            obtain ⟨Z, hZ⟩ : ∃ Z, W.drewN nq = Z := ⟨_, rfl⟩
            rw [hZ] at hXZ hEZ hOZ hGZ hZ0 hZ1
            have HXZ := Lib.hid hXZ
            have HEZ := Lib.hid hEZ
            have HOZ := Lib.hid hOZ
            have HGZ := Lib.hid hGZ
            have hb8 : w.heap.size ≤ Z.heap.size := hGZ.size
            clear hXZ hEZ hOZ hGZ hD
            go_wp2_with (at_builtin; (refine wpList_append_cells (w := Z) (base := w.heap.size) (e := 25) (size := 2) (v := .slice oo 0 ocap) (.tmp 70) (.tmp 72) _ rfl rfl i1 _ 32 Try.underlying33 HI1.out HY0.out HY1.out HY2.out rfl (by decide) [.int .u64 s, .slice o2 ops.length c2] rfl (by intro u hu; simp at hu; rcases hu with rfl | rfl <;> rfl) rfl rfl HXZ.out (by decide) (by decide) hb8 ?_; intro v9 w9 hown9 hg9 hb9; have HO9 := Lib.hid (OwnBats.snoc HXZ.out HEZ.out HOZ.out hs64 hown9 hg9); have G9 := Lib.hid (bel_row HGZ.out hg9 (fun i hi => (HXZ.out.lt i hi).1)); clear hown9 hg9 hb9))
            go_wp2_with fail
            go_roundg (l.length - (at_ + N))
            case measure => have := HG.out; have := HN.out; omega
            case rel => exact ⟨at_ + N, s + ops.length, [] ++ [(s, ops)], rfl, by go_num, HJ.out, HO9.out, G9.out⟩
          · obtain ⟨m, hm⟩ : ∃ m, bats.length = m + 1 := ⟨bats.length - 1, by omega⟩
            obtain ⟨y, hy⟩ : ∃ y, bats[m]? = some y := ⟨_, List.getElem?_eq_getElem (by omega)⟩
            have hlast : bats.getLast? = some y := by rw [List.getLast?_eq_getElem?, hm, Nat.add_sub_cancel]; exact hy
            have hnxy := HLAST.out y hlast
            have hnx0 : 0 < nx := by
              rcases Nat.eq_zero_or_pos nx with h | h
              · have := HNX0.out.1 h; rw [this] at hm; simp at hm
              · exact h
            obtain ⟨yv, m1, m2, m3, m4⟩ := HX22.out m y hy
            obtain ⟨go, rfl, -, -, cy0⟩ := own_cell HX12.out m1
            obtain ⟨_, e1, -, -, cy1⟩ := own_cell HX12.out m2
            cases e1
            obtain ⟨us, hus, -⟩ := id m3
            obtain ⟨yo, yc, rfl, -, -, -, -⟩ := own_form hus
            have hbm : (bats.length : Int) - 1 = m := by omega
            have hwm := IntWalk.i64_in ((bats.length : Int) - 1) (by omega)
            have hm0 : 0 ≤ (m : Int) := by omega
            have hm1 : (m : Int) < bats.length := by omega
            have hwl : IntKind.u64.wrap (y.2.length : Int) = y.2.length := by simp only [IntKind.wrap, IntKind.bits, IntKind.signed]; simp; omega
            have hws : IntKind.u64.wrap ((y.1 : Int) + y.2.length) = (nx : Int) := by simp only [IntKind.wrap, IntKind.bits, IntKind.signed]; simp; omega
            have HM := Lib.hid hm
            clear hy hlast hnxy m1 m2 m3 m4 hus hm hbp
            by_cases hs : s = nx
            · have HJ := Lib.hid (HSTEP.out (fun h => h.2 hs))
              have q2 : ((s : Int) != nx) = false := by rw [hs]; simp
              have q3 : ((s : Int) == nx) = true := by rw [hs]; simp
              have q4 : (s == nx) = true := by rw [hs]; simp
              have HS := Lib.hid hs
              clear hs
              go_wp2_with fail
              go_quiet (fail)
              have hD : Below W.heap.size W (W.drewN nq) := below_drewN (Below.refl _ _) nq
              have hXZ : (W.drewN nq).ownsRow w.heap.size 25 2 (.slice (some ⟨go, 0, none⟩) bats.length ocap) bats.length xs := own_below HX12.out hD
              have hEZ : ∀ i x, bats[i]? = some x → ∃ ov, xs[i * 2]? = some (.int .u64 x.1) ∧ xs[i * 2 + 1]? = some ov ∧ OwnOps (W.drewN nq) w.heap.size ov x.2 ∧ x.1 < 18446744073709551616 := fun i x hx => by
                obtain ⟨ov, k1, k2, k3, k4⟩ := HX22.out i x hx
                exact ⟨ov, k1, k2, k3.below hD, k4⟩
              have hOZ := HOV.out.below hD
              have hGZ := G2.out.trans (hD.mono hb7)
              have hZ0 := (hD.cell (p := ⟨w2.heap.size, 0, none⟩) hzW).trans hW0
              have hZ1 := (hD.cell (p := ⟨w2.heap.size, 1, none⟩) hzW).trans hW1
              obtain ⟨Z, hZ⟩ : ∃ Z, W.drewN nq = Z := ⟨_, rfl⟩
              rw [hZ] at hXZ hEZ hOZ hGZ hZ0 hZ1
              have HXZ := Lib.hid hXZ
              have HEZ := Lib.hid hEZ
              have HOZ := Lib.hid hOZ
              have HGZ := Lib.hid hGZ
              have hb8 : w.heap.size ≤ Z.heap.size := hGZ.size
              clear hXZ hEZ hOZ hGZ hD
              go_wp2_with (at_builtin; (refine wpList_append_cells (w := Z) (base := w.heap.size) (e := 25) (size := 2) (v := .slice (some ⟨go, 0, none⟩) bats.length ocap) (.tmp 70) (.tmp 72) _ rfl rfl i1 _ 32 Try.underlying33 HI1.out HY0.out HY1.out HY2.out rfl (by decide) [.int .u64 s, .slice o2 ops.length c2] rfl (by intro u hu; simp at hu; rcases hu with rfl | rfl <;> rfl) rfl rfl HXZ.out hb6 hb5 hb8 ?_; intro v9 w9 hown9 hg9 hb9; have HO9 := Lib.hid (OwnBats.snoc HXZ.out HEZ.out HOZ.out hs64 hown9 hg9); have G9 := Lib.hid (bel_row HGZ.out hg9 (fun i hi => (HXZ.out.lt i hi).1)); clear hown9 hg9 hb9))
              go_wp2_with fail
              go_roundg (l.length - (at_ + N))
              case measure => have := HG.out; have := HN.out; omega
              case rel => exact ⟨at_ + N, s + ops.length, bats ++ [(s, ops)], rfl, by go_num, HJ.out, HO9.out, G9.out⟩
            · have HF := Lib.hid (HSEQ.out ⟨hnx0, hs⟩)
              have q2 : ((s : Int) != nx) = true := by simp only [bne_iff_ne, ne_eq]; omega
              have q3 : ((s : Int) == nx) = false := beq_eq_false_iff_ne.2 (by omega)
              have q4 : (s == nx) = false := beq_eq_false_iff_ne.2 hs
              clear hnx0
              go_wp2_with fail
              go_quiet (fail)
              go_wp2_with fail
              go_ret3
              exact ⟨_, ret_rep HF.out, by rw [HF.out]; exact HB2'.out.below (below_drewN (Below.refl _ _) _), below_drewN G2.out _⟩
        · have HF := Lib.hid (HBAD.out hg)
          have hg2 : k ≠ 66 ∨ (k = 66 ∧ is_ = false) := by
            by_cases h : k = 66
            · exact .inr ⟨h, by cases is_; rfl; exact absurd ⟨h, rfl⟩ hg⟩
            · exact .inl h
          clear hg
          rcases hg2 with h66 | ⟨rfl, rfl⟩
          · have q : (k != 66) = true := by simpa using h66
            clear h66
            go_wp2_with fail
            go_ret3
            exact ⟨_, ret_rep HF.out, by rw [HF.out]; exact HB2'.out, G2.out⟩
          · go_wp2_with fail
            go_ret3
            exact ⟨_, ret_rep HF.out, by rw [HF.out]; exact HB2'.out, G2.out⟩
      · have HF := Lib.hid (repJ_bad hj.out hlt (by rw [hT]; exact he))
        rw [hT] at HT HF
        simp only at HT HF
        clear hT
        go_wp2_with fail
        refine HT.out.mono ?_
        rintro e' w1 ⟨bv, rfl, hbv, g1⟩
        obtain ⟨vo, vcap, rfl, -, -, -, -⟩ := hbv.form
        have G1 := Lib.hid (hbel.out.trans (g1.mono hbel.out.size))
        have HO1 := Lib.hid (hown.out.below g1)
        have q : (e != 0) = true := by simpa using he
        clear hbv g1 he
        go_wp2_with fail
        go_ret3
        exact ⟨_, ret_rep HF.out, by rw [HF.out]; exact HO1.out, G1.out⟩
    · have HF := Lib.hid (repJ_end hj.out hlt)
      have hk0 : ¬ (at_ : Int) < l.length := by omega
      clear hgk hlt
      go_wp2_with fail
      go_ret3
      exact ⟨_, ret_rep HF.out, by rw [HF.out]; exact hown.out, hbel.out⟩
end Wal
end Go.Proofs.Ytlfelpbcnpjneaa
