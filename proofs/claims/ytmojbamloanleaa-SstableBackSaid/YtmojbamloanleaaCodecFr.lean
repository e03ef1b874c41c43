/- codec: Frame of both. -/
import Derived.Test.YtmojbamloanleaaCodecRTT
import Derived.Test.YtmojbamloanleaaCodecSm
set_option linter.unusedVariables false
set_option linter.unusedSimpArgs false
namespace Go.Proofs.Ytmojbamloanleaa
open Go.RowKit
namespace Codec
def headF (k : Int) (l : List Int) : List Int := k :: numN l.length
def frameF (k : Int) (l : List Int) : List Int := headF k l ++ le4 (sumsF (headF k l) l) ++ l
def FramePost (k : Int) (l : List Int) (w : World) (e : Ending) (w' : World) : Prop :=
  ∃ v, e = .returned (.tuple #[v, .int .i64 0]) ∧ w'.ownsRow w.heap.size 5 1 v (frameF k l).length ((frameF k l).map (Value.int .u8)) ∧ Below w.heap.size w w'
theorem headF_rng {k : Int} (hk : 0 ≤ k ∧ k ≤ 255) (l : List Int) : Rng (headF k l) := Rng.cons hk (numN_rng _)
set_option maxHeartbeats 400000 in
set_option maxRecDepth 100000 in
theorem frame_long (k : Int) (v : Value) (l : List Int) (w : World) (h : IsB w v l) (hl : 2097152 < l.length) : Calls Try.prog 87 #[.int .u8 k, v] w fun e w' => e = .returned (.tuple #[.slice none 0 0, .int .i64 12]) ∧ w = w' := by
  have hm := h.max
  obtain ⟨ao, cap, rfl, -, -, -⟩ := h.form
  clear h
  go_enter Try.func87, Try.ntmps87
  go_wp2_with fail
  go_ret2
  exact ⟨rfl, rfl⟩
set_option maxHeartbeats 400000 in
set_option maxRecDepth 100000 in
theorem rFrame_long (k : Int) (v : Value) (l : List Int) (w : World) (h : IsB w v l) (hl : 2097152 < l.length) : Calls Try.prog 85 #[.int .u8 k, v] w fun e w' => e = .returned (.tuple #[.slice none 0 0, .int .i64 12]) ∧ w = w' := by
  have hm := h.max
  obtain ⟨ao, cap, rfl, -, -, -⟩ := h.form
  clear h
  go_enter Try.func85, Try.ntmps85
  go_wp2_with fail
  go_ret2
  exact ⟨rfl, rfl⟩
set_option maxHeartbeats 1000000 in
set_option maxRecDepth 100000 in
theorem frame_ok (k : Int) (hk : 0 ≤ k ∧ k ≤ 255) (v : Value) (l : List Int) (w : World) (h : IsB w v l) (hl : l.length ≤ 2097152) : Calls Try.prog 87 #[.int .u8 k, v] w (FramePost k l w) := by
  obtain ⟨ao, cap, rfl, -, -, -⟩ := h.form
  have HB := Lib.hid h
  have h10 := numN_len10 (n := l.length) (by omega)
  have hsz : (k :: numN l.length).length = 1 + (numN l.length).length := by simp; omega
  have HSZ := Lib.hid hsz
  obtain ⟨i0, hi0, hz0, hz1, hz2⟩ := info_parts infoU8
  have HI := Lib.hid hi0; have HZ0 := Lib.hid hz0; have HZ1 := Lib.hid hz1; have HZ2 := Lib.hid hz2
  clear hi0 hz0 hz1 hz2 h hsz
  go_enter Try.func87, Try.ntmps87
  go_wp2_with fail
  refine (number_any l.length _ (by omega)).mono ?_
  unfold NumPost
  rintro e w1 ⟨nv, rfl, hnv, g1⟩
  have HN := Lib.hid hnv
  have hl0 : (w.alloc (.cells #[.int .u8 k] 5)).ownsRow w.heap.size 5 1 (.slice (some ⟨w.heap.size, 0, none⟩) 1 1) 1 [.int .u8 k] := World.ownsRow_lit w #[.int .u8 k] 1 (Nat.le_refl _) (by simp [maxLen]) (by simp)
  have HL := Lib.hid (own_below hl0 g1)
  clear hl0
  have G1 := Lib.hid (bel_call (bel_alloc (Below.refl _ w) _) g1)
  obtain ⟨no, ncap, rfl, -, -, -, -⟩ := hnv.form
  clear hnv g1
  go_wp2_with (at_builtin; refine wpList_append_bytes (base := w.heap.size) (.tmp 11) (.tmp 15) _ rfl rfl i0 _ Try.underlying25 HI.out HZ0.out HZ1.out HZ2.out rfl _ [k] (numN l.length) rfl rfl HL.out HN.out.isB (by omega) G1.out.size ?_; intro v2 w2 hown2 hb2; have HO2 := Lib.hid hown2; have G2 := Lib.hid (G1.out.trans hb2); obtain ⟨o2, cap2, rfl, -, -, -, -⟩ := own_form hown2; clear hown2 hb2)
  have h2 := HO2.out
  rw [← HSZ.out] at h2
  have HB2 := Lib.hid (IsB.of_own h2 (headF_rng hk l))
  clear h2
  refine (sums_any _ _ (headF k l) l _ (by rw [← HSZ.out]; exact HB2.out) (HB.out.below G2.out)).mono ?_
  unfold SumsPost
  rintro e w3 ⟨sv, rfl, hsv, g3⟩
  have HS3 := Lib.hid (IsB.of_own hsv (le4_rng _))
  have HB3 := Lib.hid (HB2.out.below g3)
  have HC3 := Lib.hid (HB.out.below (bel_call G2.out g3))
  have G3 := Lib.hid (bel_call G2.out g3)
  obtain ⟨so, scap, rfl, -, -, -, -⟩ := own_form hsv
  have HBB := Lib.hid (isBB_three 25 HB3.out HS3.out HC3.out)
  rw [HSZ.out] at HBB
  clear hsv g3
  go_wp2_with fail
  refine (concat_any _ [headF k l, le4 (sumsF (headF k l) l), l] _ HBB.out (by unfold catLen headF; simp [le4_len]; omega)).mono ?_
  unfold CatPost
  rintro e w4 ⟨cv, rfl, hcv, g4⟩
  have HC := Lib.hid hcv
  have G4 := Lib.hid (bel_call (bel_alloc G3.out _) g4)
  have z3 := G3.out.size
  clear hcv g4
  go_wp2_with fail
  go_ret2
  have e2 : [headF k l, le4 (sumsF (headF k l) l), l].flatten = frameF k l := by simp [frameF]
  have h3 := HC.out
  rw [e2] at h3
  exact ⟨_, rfl, own_mono h3 (by simp; omega), G4.out⟩
set_option maxHeartbeats 1000000 in
set_option maxRecDepth 100000 in
theorem rFrame_ok (k : Int) (hk : 0 ≤ k ∧ k ≤ 255) (v : Value) (l : List Int) (w : World) (h : IsB w v l) (hl : l.length ≤ 2097152) : Calls Try.prog 85 #[.int .u8 k, v] w (FramePost k l w) := by
  obtain ⟨ao, cap, rfl, -, -, -⟩ := h.form
  have HB := Lib.hid h
  have h10 := numN_len10 (n := l.length) (by omega)
  have hsz : (k :: numN l.length).length = 1 + (numN l.length).length := by simp; omega
  have HSZ := Lib.hid hsz
  obtain ⟨i0, hi0, hz0, hz1, hz2⟩ := info_parts infoU8
  have HI := Lib.hid hi0; have HZ0 := Lib.hid hz0; have HZ1 := Lib.hid hz1; have HZ2 := Lib.hid hz2
  clear hi0 hz0 hz1 hz2 h hsz
  go_enter Try.func85, Try.ntmps85
  go_wp2_with fail
  refine (rNumber_any l.length _ (by omega)).mono ?_
  unfold RNumPost
  rintro e w1 ⟨nv, rfl, hnv, g1⟩
  have HN := Lib.hid hnv
  have G1 := Lib.hid g1
  have z1 := g1.size
  obtain ⟨no, ncap, rfl, -, -, -, -⟩ := own_form hnv
  clear hnv g1
  go_wp2_with (at_builtin; refine wpList_append_bytes (base := w1.heap.size) (.tmp 17) (.tmp 18) _ rfl rfl i0 _ Try.underlying25 HI.out HZ0.out HZ1.out HZ2.out rfl _ [k] (numN l.length) rfl rfl (World.ownsRow_lit w1 #[.int .u8 k] 1 (Nat.le_refl _) (by simp [maxLen]) (by simp)) ((IsB.of_own HN.out (numN_rng _)).alloc _) (by omega) (by simp) ?_; intro v2 w2 hown2 hb2; have HO2 := Lib.hid hown2; have G2' := Lib.hid (((Below.refl _ w1).alloc (Nat.le_refl _) _).trans hb2); have G2 := Lib.hid (bel_call G1.out G2'.out); obtain ⟨o2, cap2, rfl, -, -, -, -⟩ := own_form hown2; clear hown2 hb2)
  have h2 := HO2.out
  rw [← HSZ.out] at h2
  have HB2 := Lib.hid (IsB.of_own h2 (headF_rng hk l))
  clear h2
  refine (rsums_any _ _ (headF k l) l _ (by rw [← HSZ.out]; exact HB2.out) (HB.out.below G2.out)).mono ?_
  unfold SumsPost
  rintro e w3 ⟨sv, rfl, hsv, g3⟩
  have HS3 := Lib.hid (IsB.of_own hsv (le4_rng _))
  have HO3 := Lib.hid (own_below HO2.out g3)
  have G3 := Lib.hid (bel_call G2.out g3)
  have z3 : w1.heap.size ≤ w3.heap.size := Nat.le_trans G2'.out.size g3.size
  obtain ⟨so, scap, rfl, -, -, -, -⟩ := own_form hsv
  clear hsv g3
  go_wp2_with (first
    | (at_builtin; refine wpList_append_bytes (w := w3) (base := w1.heap.size) (.tmp 23) (.tmp 24) _ rfl rfl i0 _ Try.underlying25 HI.out HZ0.out HZ1.out HZ2.out rfl _ (k :: numN l.length) (le4 (sumsF (headF k l) l)) rfl rfl HO3.out HS3.out (by rw [le4_len]; omega) z3 ?_; intro v4 w4 hown4 hb4; have HO4 := Lib.hid hown4; have G4' := Lib.hid hb4; have G4 := Lib.hid (G3.out.trans (hb4.mono z1)); obtain ⟨o4, cap4, rfl, -, -, -, -⟩ := own_form hown4; clear hown4 hb4; have z4 := G4'.out.size)
    | (at_builtin; refine wpList_append_bytes (w := w4) (base := w1.heap.size) (.tmp 26) (.tmp 27) _ rfl rfl i0 _ Try.underlying25 HI.out HZ0.out HZ1.out HZ2.out rfl _ (k :: numN l.length ++ le4 (sumsF (headF k l) l)) l rfl rfl HO4.out (HB.out.below G4.out) (by rw [le4_len]; omega) (Nat.le_trans z3 z4) ?_; intro v5 w5 hown5 hb5; have HO5 := Lib.hid hown5; have G5 := Lib.hid (G4.out.trans (hb5.mono z1)); clear hown5 hb5))
  go_ret2
  have h5 := own_mono HO5.out z1
  have e5 : (frameF k l).length = 1 + (numN l.length).length + (le4 (sumsF (headF k l) l)).length + l.length := by simp [frameF, headF]; omega
  refine ⟨_, rfl, ?_, G5.out⟩
  rw [e5]
  exact h5
end Codec
end Go.Proofs.Ytmojbamloanleaa
