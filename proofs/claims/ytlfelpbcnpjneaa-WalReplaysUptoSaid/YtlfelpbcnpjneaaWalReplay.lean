/- wal: Replay. -/
import Derived.Test.YtlfelpbcnpjneaaWalBats
import Derived.Test.YtlfelpbcnpjneaaWalRead
namespace Go.Proofs.Ytlfelpbcnpjneaa
open Go.RowKit
namespace Wal
open Codec
theorem ret_rep {v : Value} {t : List Bat × Nat × Int} {l : List Bat} {a : Nat} {e : Int} (h : t = (l, a, e)) : Ending.returned (.tuple #[v, .int .i64 a, .int .i64 e]) = .returned (.tuple #[v, .int .i64 t.2.1, .int .i64 t.2.2]) := by subst h; rfl
set_option maxRecDepth 100000 in
set_option maxHeartbeats 4000000 in
theorem replay_any (v : Value) (l : List Int) (w : World) (h : IsB w v l) (hl : l.length ≤ 1099511627776) :
    Calls Try.prog 12 #[v] w (RepPost l w) := by
  obtain ⟨ao, cap, rfl, hnc, hcap, -⟩ := h.form
  have HB := Lib.hid h
  have HJ0 := Lib.hid (repJ_start l)
  obtain ⟨i1, hi1, hy0, hy1, hy2⟩ := info_parts infoBat
  have HI1 := Lib.hid hi1; have HY0 := Lib.hid hy0; have HY1 := Lib.hid hy1; have HY2 := Lib.hid hy2
  clear hi1 hy0 hy1 hy2 h
  go_enter Try.func12, Try.ntmps12
  go_wp2_with fail
  go_loopg [5, 6, 7] (l.length) (fun gk ov i j wr => ∃ (at_ nx : Nat) (bats : List Bat), gk = l.length - at_ ∧ i = .int .i64 at_ ∧ j = .int .u64 nx ∧ Hid (repJ l at_ nx bats) ∧ Hid (OwnBats wr w.heap.size ov bats) ∧ Hid (Below w.heap.size w wr))
  case atStart => exact ⟨0, 0, [], rfl, rfl, rfl, HJ0.out, OwnBats.nil _ _, Below.refl _ _⟩
  case round =>
    obtain ⟨at_, nx, bats, hgk, rfl, rfl, hj, hown, hbel⟩ := hrel
    obtain ⟨xs, hxs1, hxs2⟩ := hown.out
    have HX1 := Lib.hid hxs1
    have HX2 := Lib.hid hxs2
    obtain ⟨oo, ocap, rfl, -, -, -, -⟩ := own_form hxs1
    have hjl := hj.out.1
    have hbl := hj.out.2.1
    have hnx := hj.out.2.2.1
    clear hxs1 hxs2
    by_cases hlt : at_ < l.length
    · have hk0 : (at_ : Int) < l.length := by omega
      have hk1 : 0 ≤ (at_ : Int) := by omega
      have HG := Lib.hid hgk
      clear hgk
      obtain ⟨bb, bo, rfl, hbb⟩ : ∃ b o, ao = some ⟨b, o, none⟩ ∧ b < w.heap.size := by
        obtain ⟨b, o, _, e, hb, -, -, -, -⟩ := HB.out.at_ (k := at_) hlt
        exact ⟨b, o, e, hb⟩
      have HBW := Lib.hid (HB.out.below hbel.out)
      have hcut := HBW.out.cut at_ (l.length - at_) (by omega)
      rw [List.take_of_length_le (by rw [List.length_drop]; omega), Option.map_some, plain_add'] at hcut
      have HT := Lib.hid (takeFrame_any _ (l.drop at_) wr hcut (by rw [List.length_drop]; omega))
      obtain ⟨⟨k, body, n, e⟩, hT⟩ : ∃ t, takeFrameF (l.drop at_) = t := ⟨_, rfl⟩
      have hrng := HB.out.rng
      unfold TFPost at HT
      clear hcut
      by_cases he : e = 0
      · subst he
        have hc := takeFrameF_canon (hrng.drop at_) hT
        obtain ⟨-, hn, hb21, hnl, hn6, -, -⟩ := hc
        have hn0 : 0 ≤ n := by omega
        obtain ⟨N, rfl⟩ := Int.eq_ofNat_of_zero_le hn0
        rw [Int.toNat_natCast, List.length_drop] at hnl
        rw [Int.toNat_natCast] at hn6
        have he0 : (takeFrameF (l.drop at_)).2.2.2 = 0 := by rw [hT]
        have hform := repJ_form hj.out hlt he0
        have hseq := repJ_seq hj.out hlt he0
        have hstep := repJ_step hrng hj.out hlt he0
        rw [hT] at hform hseq hstep HT
        simp only [Int.toNat_natCast] at hform hseq hstep HT
        obtain ⟨⟨s, ops, is_⟩, hR⟩ : ∃ t, rdRes ((l.drop at_).take N) body = t := ⟨_, rfl⟩
        have hok : is_ = true → (encF s ops).2 = 0 := fun h => by
          have := rdRes_ok (f := (l.drop at_).take N) (b := body) (by rw [hR]; exact h)
          rw [hR] at this
          exact this
        rw [hR] at hform hseq hstep
        simp only at hform hseq hstep
        have HFORM := Lib.hid hform
        have HSEQ := Lib.hid hseq
        have HSTEP := Lib.hid hstep
        have HRR := Lib.hid hR
        have HOK := Lib.hid hok
        clear hform hseq hstep hR hok he0 hT hrng hn
        go_wp2_with fail
        refine HT.out.mono ?_
        rintro e w1 ⟨bv, rfl, hbv, g1⟩
        have HBV := Lib.hid hbv.isB
        obtain ⟨vo, vcap, rfl, -, -, -, -⟩ := hbv.form
        have HB1 := Lib.hid (HB.out.below (hbel.out.trans (g1.mono hbel.out.size)))
        have hcut := HB1.out.cut at_ N (by omega)
        rw [Option.map_some, plain_add'] at hcut
        have HRD := Lib.hid (read_any _ _ _ body w1 hcut HBV.out hb21)
        have G1 := Lib.hid (hbel.out.trans (g1.mono hbel.out.size))
        have HX11 := Lib.hid (own_below HX1.out g1)
        have HX21 : Hid (∀ i x, bats[i]? = some x → ∃ ov, xs[i * 2]? = some (.int .u64 x.1) ∧ xs[i * 2 + 1]? = some ov ∧ OwnOps w1 w.heap.size ov x.2 ∧ x.1 < 18446744073709551616) := Lib.hid (fun i x hx => by
          obtain ⟨ov, k1, k2, k3, k4⟩ := HX2.out i x hx
          exact ⟨ov, k1, k2, k3.below g1, k4⟩)
        unfold ReadPost at HRD
        rw [HRR.out] at HRD
        simp only at HRD
        have hcc : at_ ≤ cap ∧ at_ + N ≤ cap ∧ at_ + N ≤ l.length := by omega
        obtain ⟨hc1, hc2, hc3⟩ := hcc
        have hs1 := IntWalk.i64_in ((at_ : Int) + N) (by omega)
        have hnn : at_ + N - at_ = N := by omega
        clear hbv g1 hcut
        go_wp2_with fail
        refine HRD.out.mono ?_
        rintro e w2 ⟨ov, rfl, hov, g2⟩
        obtain ⟨ys, hys, -⟩ := id hov
        obtain ⟨o2, c2, rfl, -, -, -, -⟩ := own_form hys
        have z1 := G1.out.size
        have z2 := g2.size
        have HOV := Lib.hid ((hov.mono z1).below ((Below.refl _ w2).alloc (Nat.le_refl _) (.cells #[.int .u64 s, .slice o2 ops.length c2] 25)))
        have G2' := bel_call G1.out g2
        have G2 := Lib.hid (bel_alloc G2' (.cells #[.int .u64 s, .slice o2 ops.length c2] 25))
        have gg2 := bel_alloc g2 (.cells #[.int .u64 s, .slice o2 ops.length c2] 25)
        have HX12 := Lib.hid (own_below HX11.out gg2)
        have HX22 : Hid (∀ i x, bats[i]? = some x → ∃ ov, xs[i * 2]? = some (.int .u64 x.1) ∧ xs[i * 2 + 1]? = some ov ∧ OwnOps (w2.alloc (.cells #[.int .u64 s, .slice o2 ops.length c2] 25)) w.heap.size ov x.2 ∧ x.1 < 18446744073709551616) := Lib.hid (fun i x hx => by
          obtain ⟨ov, k1, k2, k3, k4⟩ := HX21.out i x hx
          exact ⟨ov, k1, k2, k3.below gg2, k4⟩)
        have HB2 : Hid (OwnBats w2 w.heap.size (.slice oo bats.length ocap) bats) := Lib.hid ⟨xs, own_below HX11.out g2, fun i x hx => by
          obtain ⟨ov, k1, k2, k3, k4⟩ := HX21.out i x hx
          exact ⟨ov, k1, k2, k3.below g2, k4⟩⟩
        have HB2' := Lib.hid (HB2.out.below ((Below.refl _ w2).alloc (Nat.le_refl _) (.cells #[.int .u64 s, .slice o2 ops.length c2] 25)))
        have hW0 : (w2.alloc (.cells #[.int .u64 s, .slice o2 ops.length c2] 25)).cell? ⟨w2.heap.size, 0, none⟩ = some (.int .u64 s) := by go_simp
        have hW1 : (w2.alloc (.cells #[.int .u64 s, .slice o2 ops.length c2] 25)).cell? ⟨w2.heap.size, 1, none⟩ = some (.slice o2 ops.length c2) := by go_simp
        have hzW : w2.heap.size < (w2.alloc (.cells #[.int .u64 s, .slice o2 ops.length c2] 25)).heap.size := by simp
        obtain ⟨W, hW⟩ : ∃ W, w2.alloc (.cells #[.int .u64 s, .slice o2 ops.length c2] 25) = W := ⟨_, rfl⟩
        rw [hW] at HOV G2 HX12 HX22 HB2' hW0 hW1 hzW
        clear hys hov g2 G2' gg2
        cases is_
        · have HF := Lib.hid (HFORM.out rfl)
          go_wp2_with fail
          go_ret3
          exact ⟨_, ret_rep HF.out, by rw [HF.out]; exact HB2'.out, G2.out⟩
        · have hok := encF_ok (HOK.out rfl)
          obtain ⟨-, k2, k3, -, k5, k6, -⟩ := hok
          have HSEQ := Lib.hid (HSEQ.out rfl)
          have HSTEP := Lib.hid (HSTEP.out rfl)
          by_cases hs : 0 < nx ∧ s ≠ nx
          · have HF := Lib.hid (HSEQ.out hs)
            have q1 : decide (0 < (nx : Int)) = true := by rw [decide_eq_true_iff]; omega
            have q2 : ((s : Int) != nx) = true := by simp only [bne_iff_ne, ne_eq]; omega
            have q3 : ((s : Int) == nx) = false := beq_eq_false_iff_ne.2 (by omega)
            have q4 : (s == nx) = false := beq_eq_false_iff_ne.2 hs.2
            have q5 : ¬ s = nx := hs.2
            have q6 : 0 < nx := hs.1
            clear hs
            go_wp2_with fail
            go_ret3
            exact ⟨_, ret_rep HF.out, by rw [HF.out]; exact HB2'.out, G2.out⟩
          · have HJ := Lib.hid (HSTEP.out hs)
            have hw1 : IntKind.u64.wrap (ops.length : Int) = ops.length := by simp only [IntKind.wrap, IntKind.bits, IntKind.signed]; simp; omega
            have hw2 : IntKind.u64.wrap ((s : Int) + ops.length) = s + ops.length := by simp only [IntKind.wrap, IntKind.bits, IntKind.signed]; simp; omega
            have hb5 : (bats.length + 1) * 32 ≤ 140737488355328 := by omega
            have hb6 : bats.length < 9223372036854775807 := by omega
            have hb7 : w.heap.size ≤ W.heap.size := G2.out.size
            have hs64 : s < 18446744073709551616 := by omega
            have HN := Lib.hid (show l.length - (at_ + N) < l.length - at_ by omega)
            have hq : (0 < nx ∧ s = nx) ∨ nx = 0 := by
              by_cases h0 : 0 < nx
              · left
                exact ⟨h0, Decidable.not_not.1 (fun h => hs ⟨h0, h⟩)⟩
              · right; omega
            clear hs
            rcases hq with ⟨q1, rfl⟩ | rfl
            all_goals (
              go_wp2_with (at_builtin; (refine wpList_append_cells (w := W) (base := w.heap.size) (e := 25) (size := 2) (v := .slice oo bats.length ocap) (.tmp 59) (.tmp 61) _ rfl rfl i1 _ 32 Try.underlying33 HI1.out HY0.out HY1.out HY2.out rfl (by decide) [.int .u64 s, .slice o2 ops.length c2] rfl (by intro u hu; simp at hu; rcases hu with rfl | rfl <;> rfl) rfl rfl HX12.out hb6 hb5 hb7 ?_; intro v9 w9 hown9 hg9 hb9; have HO9 := Lib.hid (OwnBats.snoc HX12.out HX22.out HOV.out hs64 hown9 hg9); have G9 := Lib.hid (bel_row G2.out hg9 (fun i hi => (HX12.out.lt i hi).1)); have hc0 : w9.cell? ⟨w2.heap.size, 0, none⟩ = some (.int .u64 s) := (cell_grown hg9 hzW (fun he => by have := (HX11.out.lt _ he).2; omega)).trans hW0; have hc1 : w9.cell? ⟨w2.heap.size, 1, none⟩ = some (.slice o2 ops.length c2) := (cell_grown hg9 hzW (fun he => by have := (HX11.out.lt _ he).2; omega)).trans hW1; clear hown9 hg9 hb9))
              go_wp2_with fail
              go_roundg (l.length - (at_ + N))
              case measure => have := HG.out; have := HN.out; omega
              case rel => exact ⟨at_ + N, s + ops.length, bats ++ [(s, ops)], rfl, by go_num, by go_num, HJ.out, HO9.out, G9.out⟩)
      · have HF := Lib.hid (repJ_bad hj.out hlt (by rw [hT]; exact he))
        rw [hT] at HT HF
        simp only at HT HF
        clear hT
        go_wp2_with fail
        refine HT.out.mono ?_
        rintro e' w1 ⟨bv, rfl, hbv, g1⟩
        obtain ⟨vo, vcap, rfl, -, -, -, -⟩ := hbv.form
        have G1 := Lib.hid (hbel.out.trans (g1.mono hbel.out.size))
        have HO1 := Lib.hid (hown.out.below g1)
        have q : (e != 0) = true := by simpa using he
        clear hbv g1 he
        go_wp2_with fail
        go_ret3
        exact ⟨_, ret_rep HF.out, by rw [HF.out]; exact HO1.out, G1.out⟩
    · have HF := Lib.hid (repJ_end hj.out hlt)
      have hk0 : ¬ (at_ : Int) < l.length := by omega
      clear hgk hlt
      go_wp2_with fail
      go_ret3
      exact ⟨_, ret_rep HF.out, by rw [HF.out]; exact hown.out, hbel.out⟩
end Wal
end Go.Proofs.Ytlfelpbcnpjneaa
