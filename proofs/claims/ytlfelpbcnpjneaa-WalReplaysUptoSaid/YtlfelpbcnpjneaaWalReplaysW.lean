/- The walk of WalReplays. -/
import Derived.Test.YtlfelpbcnpjneaaWalShown
import Derived.Test.YtlfelpbcnpjneaaWalRReplay
import Derived.Test.YtlfelpbcnpjneaaWalMark
namespace Go.Proofs.Ytlfelpbcnpjneaa
open Go.RowKit
namespace Wal
open Codec
set_option maxRecDepth 100000 in
set_option maxHeartbeats 4000000 in
theorem replays_walk (v : Value) (l : List Int) (w : World) (h : IsB w v l) (hl : l.length ≤ 1048575) :
    Calls Try.prog 4 #[v] w (Ret (.bool true) w) := by
  obtain ⟨ao, cap, rfl, hnc, hcap, -⟩ := h.form
  have HB := Lib.hid h
  clear h
  go_enter Try.func4, Try.ntmps4
  go_wp2_with fail
  refine (shown_any _).mono ?_
  rintro e w1 ⟨rfl, g1⟩
  have G1 := Lib.hid g1
  clear g1
  go_wp2_with fail
  refine (rReplay_any _ l w1 (HB.out.below G1.out) (by omega)).mono ?_
  unfold RepPost
  obtain ⟨⟨R, A, E⟩, hR⟩ : ∃ t, rep l = t := ⟨_, rfl⟩
  have HRR := Lib.hid hR
  rw [hR]
  clear hR
  simp only
  rintro e w2 ⟨rv, rfl, hrv, g2⟩
  have HRV := Lib.hid hrv
  have G2 := Lib.hid (bel_call G1.out g2)
  obtain ⟨ys, hys, -⟩ := id hrv
  obtain ⟨ro, rc, rfl, -, -, -, -⟩ := own_form hys
  clear hrv g2 hys
  go_wp2_with fail
  refine (replay_any _ l w2 (HB.out.below G2.out) (by omega)).mono ?_
  unfold RepPost
  rw [HRR.out]
  simp only
  rintro e w3 ⟨pv, rfl, hpv, g3⟩
  have HPV := Lib.hid hpv
  have G3 := Lib.hid g3
  obtain ⟨zs, hzs, -⟩ := id hpv
  obtain ⟨po, pc, rfl, -, -, -, -⟩ := own_form hzs
  clear hpv g3 hzs
  have HRV3 := Lib.hid (HRV.out.below G3.out)
  go_wp2_with fail
  refine (same_any _ _ R w3 HPV.out.isBats HRV3.out.isBats).mono ?_
  rintro e w4 ⟨rfl, g4⟩
  have G4 := Lib.hid (bel_call G3.out g4)
  have HP4 := Lib.hid (HPV.out.below g4)
  have hRm : R.length ≤ 9223372036854775807 := HPV.out.isBats.max
  clear g4
  obtain ⟨n, hn⟩ : ∃ n, R.length = n := ⟨_, rfl⟩
  rw [hn] at hRm
  rw [hn]
  have HN := Lib.hid hn
  clear hn
  go_wp2_with fail
  go_loopg [11] n (fun gk iv wr => ∃ k, gk = n - k ∧ iv = .int .i64 k ∧ k ≤ n ∧ Hid (Shp w2.heap.size w4 wr))
  case atStart => exact ⟨0, rfl, rfl, Nat.zero_le _, Shp.refl _ _⟩
  case round =>
    obtain ⟨k, hgk, rfl, hkn, hs⟩ := hrel
    have HG := Lib.hid hgk
    clear hgk
    by_cases hlt : k < n
    · obtain ⟨xs, hx1, hx2⟩ := HP4.out
      obtain ⟨x, hxx⟩ : ∃ x, R[k]? = some x := ⟨_, List.getElem?_eq_getElem (by have := HN.out; omega)⟩
      obtain ⟨ov, m1, m2, m3, m4⟩ := hx2 k x hxx
      have hx3 := hs.out.2.2.2 _ _ _ hx1
      obtain ⟨g, rfl, -, -, c1⟩ := own_cell hx3 m2
      obtain ⟨l', -, ho⟩ := hs.out.2.2.1 _ _ m3
      have HM := Lib.hid (mark_any w2.heap.size ov l' wr ho)
      obtain ⟨us, hus, -⟩ := id ho
      obtain ⟨oo, oc, rfl, -, -, -, -⟩ := own_form hus
      have hk0 : (k : Int) < n := by omega
      have hk1 : 0 ≤ (k : Int) := by omega
      have hw1 := IntWalk.i64_in ((k : Int) + 1) (by omega)
      clear hx1 hx2 hx3 hxx m1 m2 m3 ho hus
      go_wp2_with fail
      refine HM.out.mono ?_
      rintro e w5 ⟨rfl, hsh⟩
      have HSH := Lib.hid (hs.out.trans hsh)
      clear hsh
      go_wp2_with fail
      go_roundg (n - (k + 1))
      case measure => have := HG.out; omega
      case rel => exact ⟨k + 1, rfl, by go_num, by omega, HSH.out⟩
    · have hk0 : ¬ (k : Int) < n := by omega
      have G5 := Lib.hid (G4.out.trans hs.out.1)
      have G5' := Lib.hid (G2.out.trans (G5.out.mono G2.out.size))
      have HRV5 := Lib.hid (HRV.out.below G5.out)
      have HREP := Lib.hid (replay_any _ l wr (HB.out.below G5'.out) (by omega))
      unfold RepPost at HREP
      rw [HRR.out] at HREP
      simp only at HREP
      go_wp2_with fail
      refine HREP.out.mono ?_
      rintro e w6 ⟨qv, rfl, hqv, g6⟩
      have HQV := Lib.hid hqv
      have G6 := Lib.hid (bel_call G5'.out g6)
      have HRV6 := Lib.hid (HRV5.out.below g6)
      obtain ⟨vs, hvs, -⟩ := id hqv
      obtain ⟨qo, qc, rfl, -, -, -, -⟩ := own_form hvs
      have HSM := Lib.hid (same_any _ _ R w6 hqv.isBats HRV6.out.isBats)
      rw [HN.out] at HSM
      rw [HN.out]
      clear hqv g6 hvs
      go_wp2_with fail
      refine HSM.out.mono ?_
      rintro e w7 ⟨rfl, g7⟩
      have G7 := Lib.hid (bel_call G6.out g7)
      clear g7
      go_wp2_with fail
      go_ret
      exact ⟨rfl, G7.out⟩
end Wal
end Go.Proofs.Ytlfelpbcnpjneaa
