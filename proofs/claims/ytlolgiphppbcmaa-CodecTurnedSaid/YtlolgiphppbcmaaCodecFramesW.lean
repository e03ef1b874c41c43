/- The walk of CodecFrames. -/
import Derived.Test.YtlolgiphppbcmaaCodecTextsW
import Derived.Test.YtlolgiphppbcmaaCodecRTF
namespace Go.Proofs.Ytlolgiphppbcmaa
open Go.RowKit
namespace Codec
theorem headF_len (k : Int) (l : List Int) : (headF k l).length = (numN l.length).length + 1 := rfl
theorem frameF_rng {k : Int} (hk : 0 ≤ k ∧ k ≤ 255) {l : List Int} (h : Rng l) : Rng (frameF k l) := ((headF_rng hk l).append (le4_rng _)).append h
/-- what lies behind a head of so many bytes -/
theorem takeFrameF_of {k : Int} {S B m : List Int} {n : Nat} (hn : n ≤ 2097152) (hS : S.length = 4) (hB : B.length = n) :
    takeFrameF (k :: numN n ++ S ++ B ++ m) = if S ≠ le4 (sumsF (k :: numN n) B) then (0, [], 0, 13) else (k, B, ((numN n).length : Int) + 5 + n, 0) := by
  have e1 : (k :: numN n ++ S ++ B ++ m).drop 1 = numN n ++ (S ++ B ++ m) := by simp
  have e2 : lenF (numN n ++ (S ++ B ++ m)) 4 = ((n : Int), ((numN n).length : Int), 0) := lenF_num hn _ 4 (by simp; omega)
  have e3 : (k :: numN n ++ S ++ B ++ m).take ((numN n).length + 1) = k :: numN n := by
    rw [List.append_assoc, List.append_assoc]; exact List.take_left' rfl
  have e4 : (k :: numN n ++ S ++ B ++ m).drop ((numN n).length + 1) = S ++ (B ++ m) := by
    rw [List.append_assoc, List.append_assoc]; exact List.drop_left' rfl
  have e5 : (k :: numN n ++ S ++ B ++ m).drop ((numN n).length + 5) = B ++ m := by
    rw [show (numN n).length + 5 = (numN n).length + 1 + 4 from rfl, ← List.drop_drop, e4]; exact List.drop_left' hS
  unfold takeFrameF
  rw [e1, e2, if_neg (by simp), if_neg (by simp)]
  simp only [Int.toNat_natCast]
  rw [e3, e4, e5, List.take_left' hS, List.take_left' hB]
  rfl
theorem takeFrameF_frame {k : Int} (_ : 0 ≤ k ∧ k ≤ 255) (l m : List Int) (hl : l.length ≤ 2097152) :
    takeFrameF (frameF k l ++ m) = (k, l, ((numN l.length).length : Int) + 5 + l.length, 0) := by
  have := takeFrameF_of (k := k) (B := l) (S := le4 (sumsF (headF k l) l)) (m := m) hl rfl rfl
  rw [if_neg (by simp [headF])] at this
  exact this
set_option maxRecDepth 100000 in
set_option maxHeartbeats 2000000 in
theorem frames_walk (kd : Int) (hkd : 0 ≤ kd ∧ kd ≤ 255) (v u : Value) (l m : List Int) (w : World) (h : IsB w v l) (k : IsB w u m) (hl : l.length ≤ 1048576) (hml : m.length ≤ 1048576) : Calls Try.prog 8 #[.int .u8 kd, v, u] w (Ret (.bool true) w) := by
  obtain ⟨ao, cap, rfl, hnc, hcap, -⟩ := h.form
  have HB := Lib.hid h
  have HU := Lib.hid k
  have h10 := numN_len10 (n := l.length) (by omega)
  have hF := takeFrameF_frame hkd l m (by omega)
  obtain ⟨X, hX⟩ : ∃ X, frameF kd l = X := ⟨_, rfl⟩
  have hXr : Rng X := by rw [← hX]; exact frameF_rng hkd h.rng
  have hXl : X.length = (numN l.length).length + 5 + l.length := by rw [← hX]; simp [frameF, headF, le4_len]; omega
  rw [hX] at hF
  have HX := Lib.hid hX
  have HXR := Lib.hid hXr
  have HXL := Lib.hid hXl
  have HF := Lib.hid hF
  have hX20 : X.length ≤ 1048591 := by omega
  obtain ⟨i0, hi0, hz0, hz1, hz2⟩ := info_parts infoU8
  have HI := Lib.hid hi0; have HZ0 := Lib.hid hz0; have HZ1 := Lib.hid hz1; have HZ2 := Lib.hid hz2
  clear hi0 hz0 hz1 hz2 h k hF hX hXr hXl h10
  go_enter Try.func8, Try.ntmps8
  go_wp2_with fail
  refine (shown_any _).mono ?_
  rintro e w1 ⟨rfl, g1⟩
  have G1 := Lib.hid g1
  clear g1
  go_wp2_with fail
  refine (lent_any _ l w1 (HB.out.below G1.out) (by omega)).mono ?_
  unfold LentPost
  rintro e w2 ⟨rfl, ho2, g2⟩
  have G2 := Lib.hid (bel_call G1.out g2)
  have HK2 := Lib.hid (IsB.of_own ho2 (HB.out.rng.append (Rng.cons (x := 177) (by decide) (Rng.cons (x := 178) (by decide) Rng.nil))))
  generalize w1.heap.size = g at HK2
  clear ho2 g2
  go_wp2_with fail
  refine (rFrame_ok kd hkd _ l w2 (HB.out.below G2.out) (by omega)).mono ?_
  unfold FramePost
  rw [HX.out]
  rintro e w3 ⟨wv, rfl, hwv, g3⟩
  have HW := Lib.hid (OwnS.of_own hwv HXR.out)
  have G3 := Lib.hid (bel_call G2.out g3)
  have HK3 := Lib.hid (HK2.out.below g3)
  have z3 := G2.out.size
  obtain ⟨wo, wcap, rfl, -, -, -, -⟩ := own_form hwv
  have hF3 : IsB w3 (.slice (some ⟨g, 0, none⟩) l.length (l.length + 2)) l := by
    have := IsB.front HK3.out l.length (by simp)
    simpa using this
  have HF3 := Lib.hid hF3
  clear hwv g3 hF3
  go_wp2_with fail
  refine (frame_ok kd hkd _ l w3 HF3.out (by omega)).mono ?_
  unfold FramePost
  rw [HX.out]
  rintro e w4 ⟨bv, rfl, hbv, g4⟩
  have HBV := Lib.hid (OwnS.of_own hbv HXR.out)
  have G4 := Lib.hid (bel_call G3.out g4)
  have HK4 := Lib.hid (HK3.out.below g4)
  have HW4 := Lib.hid (HW.out.below g4)
  have z4 := G3.out.size
  obtain ⟨bo, bcap, rfl, -, -, -, -⟩ := own_form hbv
  clear hbv g4
  go_wp2_with fail
  refine (stays_any _ g _ l w4 (HB.out.below G4.out) HK4.out).mono ?_
  rintro e w5 ⟨rfl, g5⟩
  have HBV5 := Lib.hid (HBV.out.below g5)
  have HW5 := Lib.hid (HW4.out.below g5)
  have G5 := Lib.hid (bel_call G4.out g5)
  have z5 := g5.size
  clear g5
  have c1 := HBV5.out.isB.conv Try.underlying23 Try.underlying5 Try.underlying9
  have c2 := HW5.out.isB.conv Try.underlying23 Try.underlying5 Try.underlying9
  go_wp2_with (first
    | (at_builtin; refine wpList_append_bytes (w := w5.alloc (.cells #[] 5)) (base := w5.heap.size) (.tmp 60) (.tmp 61) _ rfl rfl i0 _ Try.underlying23 HI.out HZ0.out HZ1.out HZ2.out rfl _ [] X rfl rfl (World.ownsRow_lit w5 #[] 0 (Nat.le_refl _) (by simp [maxLen]) (by simp)) (HBV5.out.isB.alloc _) (by omega) (by simp) ?_; intro v6 w6 hown6 hb6; simp only [Nat.zero_add, List.nil_append] at hown6; have HO6 := Lib.hid hown6; have HB6 := Lib.hid (((Below.refl _ w5).alloc (Nat.le_refl _) _).trans hb6); clear hown6 hb6)
    | (at_builtin; refine wpList_append_bytes (w := w6) (base := w5.heap.size) (.tmp 62) (.tmp 63) _ rfl rfl i0 _ Try.underlying23 HI.out HZ0.out HZ1.out HZ2.out rfl u X m rfl rfl HO6.out (HU.out.below (bel_call G5.out HB6.out)) (by omega) HB6.out.size ?_; intro v7 w7 hown7 hb7; have HO7 := Lib.hid hown7; have HB7 := Lib.hid (HB6.out.trans hb7); clear hown7 hb7))
  have HBV7 := Lib.hid (HBV5.out.below HB7.out)
  have HW7 := Lib.hid (HW5.out.below HB7.out)
  have G7 := Lib.hid (bel_call G5.out HB7.out)
  clear c1 c2
  refine (takeFrame_any v7 (X ++ m) _ (IsB.of_own HO7.out (HBV5.out.rng.append HU.out.rng)) (by rw [List.length_append]; omega)).mono ?_
  unfold TFPost
  rw [HF.out]
  rintro e w8 ⟨tv, rfl, htv, g8⟩
  have HT8 := Lib.hid htv
  have HBV8 := Lib.hid (HBV7.out.below g8)
  have G8 := Lib.hid (bel_call G7.out g8)
  obtain ⟨to, tcap, rfl, -, -, -, -⟩ := htv.form
  have z8 := g8.size
  have z7 := HB7.out.size
  clear htv g8
  go_wp2_with fail
  refine (spoil_any _ _ X _ HBV8.out (by omega)).mono ?_
  unfold SpoilPost
  rintro e w9 ⟨rfl, g9⟩
  have HT9 := Lib.hid (HT8.out.kept g9 (apart_lt (b2 := w7.heap.size) HT8.out (fun k hk => by have h1 := HBV5.out.lt k hk; have h2 := HB7.out.size; omega)))
  have G9 := Lib.hid (bel_row G8.out g9 (fun k hk => by have := HBV5.out.lt k hk; omega))
  clear g9
  have c1 := HT9.out.isB.conv Try.underlying23 Try.underlying5 Try.underlying9
  have c2 := (HB.out.below G9.out).conv Try.underlying23 Try.underlying5 Try.underlying9
  have q : (((numN l.length).length : Int) + 5 + l.length == (X.length : Int)) = true := by rw [beq_iff_eq]; have := HXL.out; omega
  go_wp2_with fail
  go_ret
  exact ⟨rfl, G9.out⟩
end Codec
end Go.Proofs.Ytlolgiphppbcmaa
