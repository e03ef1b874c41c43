/- The walk of WalEncodes. -/
import Derived.Test.YtlfelpbcnpjneaaWalShown
import Derived.Test.YtlfelpbcnpjneaaWalCopied
import Derived.Test.YtlfelpbcnpjneaaWalREnc
import Derived.Test.YtlfelpbcnpjneaaWalSame
namespace Go.Proofs.Ytlfelpbcnpjneaa
open Go.RowKit
namespace Wal
open Codec
theorem isBats_one {w : World} {seq : Nat} (hs : seq < 18446744073709551616) {ov : Value} {l : List Opr} (h : IsOps w ov l) : IsBats (w.alloc (.cells #[.int .u64 seq, ov] 25)) (.slice (some ⟨w.heap.size, 0, none⟩) 1 1) [(seq, l)] := by
  refine ⟨_, 1, rfl, by simp, by simp [maxLen], fun h => (by cases h), fun i x hx => ?_⟩
  match i, hx with
  | 0, hx =>
    cases hx
    refine ⟨_, 0, [.int .u64 seq, ov], rfl, by simp, rfl, fun j u hu => ?_, ov, rfl, IsL.alloc opR_stays h _, hs⟩
    match j, hu with
    | 0, hu => cases hu; go_simp
    | 1, hu => cases hu; go_simp
set_option maxRecDepth 100000 in
set_option maxHeartbeats 4000000 in
theorem encodes_walk (seq : Nat) (hseq : seq < 18446744073709551616) (ov : Value) (l : List Opr) (w : World) (h : IsOps w ov l) (hl : l.length * 56 ≤ 140737488355328) (hs : ∀ x ∈ l, x.2.1.length ≤ 140737488355328 ∧ x.2.2.length ≤ 140737488355328) :
    Calls Try.prog 3 #[.agg #[.int .u64 seq, ov]] w (Ret (.bool true) w) := by
  have hm := h.max
  obtain ⟨ao, cap, rfl, hnc, hcap, -⟩ := h.form
  have HB := Lib.hid h
  have HSZ := Lib.hid hs
  clear h hs
  go_enter Try.func3, Try.ntmps3
  -- boxes
  go_wp2_with fail
  refine (shown_any _).mono ?_
  rintro e w1 ⟨rfl, hb⟩
  replace kb0_0 : w1.cell? ⟨w.heap.size, 0, none⟩ = some (.int .u64 seq) := (hb.cell (p := ⟨w.heap.size, 0, none⟩) (by simp <;> omega)).trans (by go_simp)
  replace kb0_1 : w1.cell? ⟨w.heap.size, 1, none⟩ = some (.slice ao l.length cap) := (hb.cell (p := ⟨w.heap.size, 1, none⟩) (by simp <;> omega)).trans (by go_simp)
  have zb1 := hb.size; (try simp at zb1)
  replace zz : w.heap.size ≤ w1.heap.size := by omega
  replace ybw_heap_size : w.heap.size < w1.heap.size := by omega
  replace gg : Below w.heap.size w w1 := (by repeat' (first | (with_reducible exact Below.refl _ _) | (with_reducible assumption) | (with_reducible refine Below.drew ?_) | (with_reducible refine below_drewN ?_ _) | (with_reducible refine bel_alloc ?_ _) | (with_reducible refine Below.setCell ?_ ?_ _) | (with_reducible refine bel_call ?_ (by assumption)) | (simp <;> omega)))
  have HQ1 := Lib.hid hb
  clear hb
  have HB1 := Lib.hid (IsL.below opR_stays HB.out gg)
  have z1 := gg.size
  go_wp2_with fail
  refine (copied_any seq _ l w1 HB1.out hl HSZ.out).mono ?_
  rintro e w2 ⟨ov, rfl, ho, hb⟩
  replace kb0_0 : w2.cell? ⟨w.heap.size, 0, none⟩ = some (.int .u64 seq) := (hb.cell (p := ⟨w.heap.size, 0, none⟩) (by simp <;> omega)).trans (by go_simp)
  replace kb0_1 : w2.cell? ⟨w.heap.size, 1, none⟩ = some (.slice ao l.length cap) := (hb.cell (p := ⟨w.heap.size, 1, none⟩) (by simp <;> omega)).trans (by go_simp)
  have zb2 := hb.size; (try simp at zb2)
  replace zz : w.heap.size ≤ w2.heap.size := by omega
  replace ybw_heap_size : w.heap.size < w2.heap.size := by omega
  replace gg : Below w.heap.size w w2 := (by repeat' (first | (with_reducible exact Below.refl _ _) | (with_reducible assumption) | (with_reducible refine Below.drew ?_) | (with_reducible refine below_drewN ?_ _) | (with_reducible refine bel_alloc ?_ _) | (with_reducible refine Below.setCell ?_ ?_ _) | (with_reducible refine bel_call ?_ (by assumption)) | (simp <;> omega)))
  have HQ2 := Lib.hid hb
  clear hb
  obtain ⟨xs, hxs, -⟩ := id ho
  obtain ⟨oo, ocap, rfl, -, -, -, -⟩ := own_form hxs
  have HO := Lib.hid (IsL.alloc opR_stays ho.isOps (.cells #[.int .u64 seq, .slice oo l.length ocap] 25))
  have HB2 := Lib.hid (IsL.below opR_stays HB.out (bel_alloc gg (.cells #[.int .u64 seq, .slice oo l.length ocap] 25)))
  have HR := Lib.hid (rEncode_any seq hseq _ l _ HB2.out)
  unfold EncPost at HR
  clear hxs ho
  -- boxes
  go_wp2_with fail
  refine (HR.out).mono ?_
  rintro e w3 ⟨rv, rfl, hrv, hb⟩
  replace kb0_0 : w3.cell? ⟨w.heap.size, 0, none⟩ = some (.int .u64 seq) := (hb.cell (p := ⟨w.heap.size, 0, none⟩) (by simp <;> omega)).trans (by go_simp)
  replace kb0_1 : w3.cell? ⟨w.heap.size, 1, none⟩ = some (.slice ao l.length cap) := (hb.cell (p := ⟨w.heap.size, 1, none⟩) (by simp <;> omega)).trans (by go_simp)
  replace kb1_0 : w3.cell? ⟨w2.heap.size, 0, none⟩ = some (.int .u64 seq) := (hb.cell (p := ⟨w2.heap.size, 0, none⟩) (by simp <;> omega)).trans (by go_simp)
  replace kb1_1 : w3.cell? ⟨w2.heap.size, 1, none⟩ = some (.slice oo l.length ocap) := (hb.cell (p := ⟨w2.heap.size, 1, none⟩) (by simp <;> omega)).trans (by go_simp)
  have zb3 := hb.size; (try simp at zb3)
  replace zz : w.heap.size ≤ w3.heap.size := by omega
  replace ybw_heap_size : w.heap.size < w3.heap.size := by omega
  replace ybw2_heap_size : w2.heap.size < w3.heap.size := by omega
  replace gg : Below w.heap.size w w3 := (by repeat' (first | (with_reducible exact Below.refl _ _) | (with_reducible assumption) | (with_reducible refine Below.drew ?_) | (with_reducible refine below_drewN ?_ _) | (with_reducible refine bel_alloc ?_ _) | (with_reducible refine Below.setCell ?_ ?_ _) | (with_reducible refine bel_call ?_ (by assumption)) | (simp <;> omega)))
  have HQ3 := Lib.hid hb
  clear hb
  have HO3 := Lib.hid (IsL.below opR_stays HO.out HQ3.out)
  have HR3 := Lib.hid hrv
  obtain ⟨ro, rcap, rfl, -, -, -, -⟩ := hrv.form
  have HE := Lib.hid (encode_any seq hseq _ l _ HO3.out)
  unfold EncPost at HE
  clear hrv
  go_wp2_with fail
  refine (HE.out).mono ?_
  rintro e w4 ⟨ev, rfl, hev, hb⟩
  replace kb0_0 : w4.cell? ⟨w.heap.size, 0, none⟩ = some (.int .u64 seq) := (hb.cell (p := ⟨w.heap.size, 0, none⟩) (by simp <;> omega)).trans (by go_simp)
  replace kb0_1 : w4.cell? ⟨w.heap.size, 1, none⟩ = some (.slice ao l.length cap) := (hb.cell (p := ⟨w.heap.size, 1, none⟩) (by simp <;> omega)).trans (by go_simp)
  replace kb1_0 : w4.cell? ⟨w2.heap.size, 0, none⟩ = some (.int .u64 seq) := (hb.cell (p := ⟨w2.heap.size, 0, none⟩) (by simp <;> omega)).trans (by go_simp)
  replace kb1_1 : w4.cell? ⟨w2.heap.size, 1, none⟩ = some (.slice oo l.length ocap) := (hb.cell (p := ⟨w2.heap.size, 1, none⟩) (by simp <;> omega)).trans (by go_simp)
  have zb4 := hb.size; (try simp at zb4)
  replace zz : w.heap.size ≤ w4.heap.size := by omega
  replace ybw_heap_size : w.heap.size < w4.heap.size := by omega
  replace ybw2_heap_size : w2.heap.size < w4.heap.size := by omega
  replace gg : Below w.heap.size w w4 := (by repeat' (first | (with_reducible exact Below.refl _ _) | (with_reducible assumption) | (with_reducible refine Below.drew ?_) | (with_reducible refine below_drewN ?_ _) | (with_reducible refine bel_alloc ?_ _) | (with_reducible refine Below.setCell ?_ ?_ _) | (with_reducible refine bel_call ?_ (by assumption)) | (simp <;> omega)))
  have HQ4 := Lib.hid hb
  clear hb
  have HO4 := Lib.hid (IsL.below opR_stays HO3.out HQ4.out)
  have HB4 := Lib.hid (IsL.below opR_stays HB.out gg)
  have HR4 := Lib.hid (HR3.out.below HQ4.out)
  have HV4 := Lib.hid hev
  obtain ⟨eo, ecap, rfl, -, -, -, -⟩ := hev.form
  have HS4 := Lib.hid (isBats_one hseq HO4.out)
  have HS5 := Lib.hid (isBats_one hseq (IsL.alloc opR_stays HB4.out (.cells #[.int .u64 seq, .slice oo l.length ocap] 25)))
  have HS4' := Lib.hid (IsL.alloc batR_stays HS4.out (.cells #[.int .u64 seq, .slice ao l.length cap] 25))
  simp only [World.size_alloc] at HS5
  have HSS := Lib.hid (same_any _ _ [(seq, l)] _ HS4'.out HS5.out)
  clear hev
  go_wp2_with fail
  refine (HSS.out).mono ?_
  rintro e w5 ⟨rfl, hb⟩
  replace kb0_0 : w5.cell? ⟨w.heap.size, 0, none⟩ = some (.int .u64 seq) := (hb.cell (p := ⟨w.heap.size, 0, none⟩) (by simp <;> omega)).trans (by go_simp)
  replace kb0_1 : w5.cell? ⟨w.heap.size, 1, none⟩ = some (.slice ao l.length cap) := (hb.cell (p := ⟨w.heap.size, 1, none⟩) (by simp <;> omega)).trans (by go_simp)
  replace kb1_0 : w5.cell? ⟨w2.heap.size, 0, none⟩ = some (.int .u64 seq) := (hb.cell (p := ⟨w2.heap.size, 0, none⟩) (by simp <;> omega)).trans (by go_simp)
  replace kb1_1 : w5.cell? ⟨w2.heap.size, 1, none⟩ = some (.slice oo l.length ocap) := (hb.cell (p := ⟨w2.heap.size, 1, none⟩) (by simp <;> omega)).trans (by go_simp)
  have zb5 := hb.size; (try simp at zb5)
  replace zz : w.heap.size ≤ w5.heap.size := by omega
  replace ybw_heap_size : w.heap.size < w5.heap.size := by omega
  replace ybw2_heap_size : w2.heap.size < w5.heap.size := by omega
  replace gg : Below w.heap.size w w5 := (by repeat' (first | (with_reducible exact Below.refl _ _) | (with_reducible assumption) | (with_reducible refine Below.drew ?_) | (with_reducible refine below_drewN ?_ _) | (with_reducible refine bel_alloc ?_ _) | (with_reducible refine Below.setCell ?_ ?_ _) | (with_reducible refine bel_call ?_ (by assumption)) | (simp <;> omega)))
  have HQ5 := Lib.hid hb
  clear hb
  have HV5 := (HV4.out.alloc (.cells #[.int .u64 seq, .slice oo l.length ocap] 25)).alloc (.cells #[.int .u64 seq, .slice ao l.length cap] 25)
  have HR5 := (HR4.out.alloc (.cells #[.int .u64 seq, .slice oo l.length ocap] 25)).alloc (.cells #[.int .u64 seq, .slice ao l.length cap] 25)
  have c1 := (HV5.below HQ5.out).isB.conv Try.underlying28 Try.underlying5 Try.underlying9
  have c2 := (HR5.below HQ5.out).isB.conv Try.underlying28 Try.underlying5 Try.underlying9
  clear HV5 HR5
  go_wp2_with fail
  go_ret
  exact ⟨rfl, gg⟩
end Wal
end Go.Proofs.Ytlfelpbcnpjneaa
