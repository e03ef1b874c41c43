/- The walk of RangemetaLoads. -/
import Derived.Test.YtbeniogffhihlaaRmRef3
import Derived.Test.YtbeniogffhihlaaRmOpen
namespace Go.Proofs.Ytbeniogffhihlaa
open Go.RowKit
namespace Rm
set_option maxRecDepth 100000 in
set_option maxHeartbeats 2000000 in
theorem loads_walk (v : Value) (l : List RangeD) (w : World) (h : IsRgs w v l) (hs : ∀ x ∈ l, x.2.1.length ≤ 140737488355328 ∧ x.2.2.1.length ≤ 140737488355328) :
    Calls Try.prog 5 #[v] w (Ret (.bool true) w) := by
  have HB := Lib.hid h
  have HS := Lib.hid hs
  obtain ⟨ao, cap, rfl, -, -, -⟩ := h.form
  clear h hs
  go_enter Try.func5, Try.ntmps5
  go_wp2_with fail
  refine (awake_any w).mono ?_
  rintro e w1 ⟨rfl, hb⟩
  have G1 := Lib.hid hb
  have HL := Lib.hid (load_any _ l w1 (HB.out.below rgR_stays hb) HS.out)
  unfold LoadP at HL
  clear hb
  by_cases ht : tableP l
  · have HT := Lib.hid ht
    clear ht
    go_wp2_with fail
    refine HL.out.mono ?_
    rintro e w2 ⟨-, h2⟩
    obtain ⟨tb, u, rfl, htb, hcell, hown, hb⟩ := h2 HT.out
    have G2 := Lib.hid (bel_call G1.out hb)
    have HC := Lib.hid hcell
    have HO := Lib.hid hown
    have HTAB := Lib.hid (rTable_any _ l w2 (HB.out.below rgR_stays (bel_call G1.out hb)))
    unfold IsTableP at HTAB
    clear h2 htb hcell hown hb HL
    go_wp2_with fail
    refine HTAB.out.mono ?_
    rintro e w3 ⟨h1, -, hb⟩
    obtain rfl := h1 HT.out
    have G3 := Lib.hid (bel_call G2.out hb)
    have O3 := HO.out.below hb
    have hu : w3.cell? ⟨tb, 0, none⟩ = some u := by
      rw [hb.cell (p := ⟨tb, 0, none⟩) (Array.getElem?_eq_some_iff.1 HC.out).1, cell_of_row w2 tb 0 _ _ _ HC.out]; rfl
    have HLI := Lib.hid (tList_any tb u l w3 hu O3.isRgs (by have := HT.out.2.1; omega) HS.out)
    unfold OwnedP at HLI
    clear h1 hb hu O3
    go_wp2_with fail
    refine HLI.out.mono ?_
    rintro e w4 ⟨u2, rfl, h1, hb⟩
    have G4 := Lib.hid (bel_call G3.out hb)
    have HSR := Lib.hid (rSameRanges_any _ u2 l l w4 (HB.out.below rgR_stays G4.out) h1.isRgs)
    rw [decide_eq_true rfl] at HSR
    obtain ⟨a4, c4, rfl, -, -, -⟩ := h1.isRgs.form
    clear h1 hb
    go_wp2_with fail
    refine HSR.out.mono ?_
    rintro e w5 ⟨rfl, hb⟩
    have G5 := Lib.hid (bel_call G4.out hb)
    clear hb
    go_wp2_with fail
    go_ret
    exact ⟨rfl, G5.out⟩
  · have HT := Lib.hid ht
    clear ht
    go_wp2_with fail
    refine HL.out.mono ?_
    rintro e w2 ⟨h2, -⟩
    obtain ⟨rfl, hb⟩ := h2 HT.out
    have G2 := Lib.hid (bel_call G1.out hb)
    have HTAB := Lib.hid (rTable_any _ l w2 (HB.out.below rgR_stays (bel_call G1.out hb)))
    unfold IsTableP at HTAB
    clear h2 hb HL
    go_wp2_with fail
    refine HTAB.out.mono ?_
    rintro e w3 ⟨-, h1, hb⟩
    obtain rfl := h1 HT.out
    have G3 := Lib.hid (bel_call G2.out hb)
    clear h1 hb
    go_wp2_with fail
    go_ret
    exact ⟨rfl, G3.out⟩
end Rm
end Go.Proofs.Ytbeniogffhihlaa
