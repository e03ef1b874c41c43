/- The walk of CodecKeys. -/
import Derived.Test.YtlolgiphppbcmaaDoorCodecKeyT
import Derived.Test.YtlolgiphppbcmaaDoorCodecKT
import Derived.Test.YtlolgiphppbcmaaDoorCodecLent
import Derived.Test.YtlolgiphppbcmaaDoorCodecC
import Derived.Test.YtlolgiphppbcmaaDoorCodecTextsW
namespace Go.Proofs.YtlolgiphppbcmaaDoor
open Go.RowKit
namespace Codec
theorem v256_bytes8 {u : Int} (h : 0 ≤ u ∧ u ≤ 18446744073709551615) : v256 (bytes8 u) = u := by
  unfold v256 bytes8
  simp only [List.foldl_cons, List.foldl_nil]
  omega
theorem keyL_len (n : Int) : (keyL n).length = 8 := rfl
theorem takeKeyIntF_key {n : Int} (h : -9223372036854775808 ≤ n ∧ n ≤ 9223372036854775807) (m : List Int) : takeKeyIntF (keyL n ++ m) = (n, 8, 0) := by
  unfold takeKeyIntF
  rw [if_neg (by rw [List.length_append, keyL_len]; omega), List.take_left' (keyL_len n)]
  have e : v256 (keyL n) = n + 9223372036854775808 := v256_bytes8 (by omega)
  rw [e, flip_back (by omega)]
  congr 1
  omega
set_option maxRecDepth 100000 in
set_option maxHeartbeats 4000000 in
theorem keys_walk (n : Int) (hn : -9223372036854775808 ≤ n ∧ n ≤ 9223372036854775807) (v u : Value) (l m : List Int) (w : World) (h : IsB w v l) (k : IsB w u m) (hl : l.length ≤ 1048576) (hml : m.length ≤ 1048576) :
    Calls Tryd.prog 4 #[.int .i64 n, v, u] w (Ret (.bool true) w) := by
  obtain ⟨ao, cap, rfl, hnc, hcap, -⟩ := h.form
  have HB := Lib.hid h
  have HU := Lib.hid k
  obtain ⟨X, hX⟩ : ∃ X, keyT l = X := ⟨_, rfl⟩
  obtain ⟨Y, hY⟩ : ∃ Y, keyL n = Y := ⟨_, rfl⟩
  have hYl : Y.length = 8 := by rw [← hY]; rfl
  have hXl : X.length ≤ 2097154 := by rw [← hX]; unfold keyT; rw [List.length_append, repl_len]; have : l.count 0 ≤ l.length := List.count_le_length; simp; omega
  have hFX := tkL_key l m
  have hFY := takeKeyIntF_key hn m
  rw [hX] at hFX
  rw [hY] at hFY
  have HX := Lib.hid hX
  have HY := Lib.hid hY
  have HFX := Lib.hid hFX
  have HFY := Lib.hid hFY
  have HXR := Lib.hid (show Rng X by rw [← hX]; exact keyT_rng h.rng)
  have HYR := Lib.hid (show Rng Y by rw [← hY]; exact keyL_rng hn)
  have HYL := Lib.hid hYl
  obtain ⟨i0, hi0, hz0, hz1, hz2⟩ := info_parts infoU8
  have HI := Lib.hid hi0; have HZ0 := Lib.hid hz0; have HZ1 := Lib.hid hz1; have HZ2 := Lib.hid hz2
  clear hi0 hz0 hz1 hz2 h k hX hY hFX hFY hYl
  go_enter Tryd.func4, Tryd.ntmps4
  go_wp2_with fail
  refine (shown_any _).mono ?_
  rintro e w1 ⟨rfl, g1⟩
  have G1 := Lib.hid g1
  clear g1
  go_wp2_with fail
  refine (lent_any _ l w1 (HB.out.below G1.out) (by omega)).mono ?_
  unfold LentPost
  rintro e w2 ⟨rfl, ho2, g2⟩
  have G2 := Lib.hid (bel_call G1.out g2)
  have HK2 := Lib.hid (IsB.of_own ho2 (HB.out.rng.append (Rng.cons (x := 177) (by decide) (Rng.cons (x := 178) (by decide) Rng.nil))))
  generalize w1.heap.size = g at HK2
  clear ho2 g2
  go_wp2_with fail
  refine (keyInt_any n w2 hn).mono ?_
  unfold KeyPost
  rw [HY.out]
  rintro e w3 ⟨av, rfl, hav, g3⟩
  have HA := Lib.hid (OwnS.of_own hav HYR.out)
  have G3 := Lib.hid (bel_call G2.out g3)
  have HK3 := Lib.hid (HK2.out.below g3)
  have zz2 := G2.out.size
  obtain ⟨aao, acap, rfl, -, -, -, -⟩ := own_form hav
  have hF3 : IsB w3 (.slice (some ⟨g, 0, none⟩) l.length (l.length + 2)) l := by
    have := IsB.front HK3.out l.length (by simp)
    simpa using this
  have HF3 := Lib.hid hF3
  clear hav g3 hF3
  go_wp2_with fail
  refine (keyText_any _ l w3 HF3.out (by omega)).mono ?_
  unfold KeyTPost
  rw [HX.out]
  rintro e w4 ⟨bv, rfl, hbv, g4⟩
  have HBV := Lib.hid (OwnS.of_own hbv HXR.out)
  have G4 := Lib.hid (bel_call G3.out g4)
  have HK4 := Lib.hid (HK3.out.below g4)
  have HA4 := Lib.hid (HA.out.below g4)
  have zz3 := G3.out.size
  have zz3' := g4.size
  obtain ⟨bo, bcap, rfl, -, -, -, -⟩ := own_form hbv
  clear hbv g4
  go_wp2_with fail
  refine (rKeyInt_any n w4 hn).mono ?_
  unfold KeyPost
  rw [HY.out]
  rintro e w5 ⟨cv, rfl, hcv, g5⟩
  have HC := Lib.hid (OwnS.of_own hcv HYR.out)
  have G5 := Lib.hid (bel_call G4.out g5)
  have HK5 := Lib.hid (HK4.out.below g5)
  have HA5 := Lib.hid (HA4.out.below g5)
  have HBV5 := Lib.hid (HBV.out.below g5)
  obtain ⟨co, ccap, rfl, -, -, -, -⟩ := own_form hcv
  have zs5 := g5.size
  clear hcv g5
  go_wp2_with fail
  refine (rKeyText_any _ l w5 (HB.out.below G5.out) (by omega)).mono ?_
  unfold KeyTPost
  rw [HX.out]
  rintro e w6 ⟨dv, rfl, hdv, g6⟩
  have HD := Lib.hid (OwnS.of_own hdv HXR.out)
  have G6 := Lib.hid (bel_call G5.out g6)
  have HK6 := Lib.hid (HK5.out.below g6)
  have HA6 := Lib.hid (HA5.out.below g6)
  have HBV6 := Lib.hid (HBV5.out.below g6)
  have HC6 := Lib.hid (HC.out.below g6)
  obtain ⟨do_, dcap, rfl, -, -, -, -⟩ := own_form hdv
  have zs6 := g6.size
  clear hdv g6
  go_wp2_with fail
  refine (stays_any _ g _ l w6 (HB.out.below G6.out) HK6.out).mono ?_
  rintro e w7 ⟨rfl, g7⟩
  have G7 := Lib.hid (bel_call G6.out g7)
  have HA7 := Lib.hid (HA6.out.below g7)
  have HBV7 := Lib.hid (HBV6.out.below g7)
  have c1 := HA7.out.isB.conv Tryd.underlying23 Tryd.underlying5 Tryd.underlying9
  have c2 := HBV7.out.isB.conv Tryd.underlying23 Tryd.underlying5 Tryd.underlying9
  have c3 := (HC6.out.below g7).isB.conv Tryd.underlying23 Tryd.underlying5 Tryd.underlying9
  have c4 := (HD.out.below g7).isB.conv Tryd.underlying23 Tryd.underlying5 Tryd.underlying9
  have hA7 := HA7.out.isB
  have HA8 := Lib.hid hA7
  have z7 := G7.out.size
  have zs7 := g7.size
  clear g7 hA7
  go_wp2_with (first
    | (at_builtin; refine wpList_append_bytes (w := w7.alloc (.cells #[] 5)) (base := w7.heap.size) (.tmp 58) (.tmp 59) _ rfl rfl i0 _ Tryd.underlying23 HI.out HZ0.out HZ1.out HZ2.out rfl _ [] Y rfl rfl (World.ownsRow_lit w7 #[] 0 (Nat.le_refl _) (by simp [maxLen]) (by simp)) (HA8.out.alloc _) (by have := HYL.out; omega) (by simp) ?_; intro v8 w8 hown8 hb8; simp only [Nat.zero_add, List.nil_append] at hown8; have HO8 := Lib.hid hown8; have HB8 := Lib.hid (((Below.refl _ w7).alloc (Nat.le_refl _) _).trans hb8); clear hown8 hb8 c1 c2 c3 c4)
    | (at_builtin; refine wpList_append_bytes (w := w8) (base := w7.heap.size) (.tmp 60) (.tmp 61) _ rfl rfl i0 _ Tryd.underlying23 HI.out HZ0.out HZ1.out HZ2.out rfl u Y m rfl rfl HO8.out (HU.out.below (bel_call G7.out HB8.out)) (by have := HYL.out; omega) HB8.out.size ?_; intro v9 w9 hown9 hb9; have HO9 := Lib.hid hown9; have HB9 := Lib.hid (HB8.out.trans hb9); clear hown9 hb9))
  refine (takeKeyInt_any v9 (Y ++ m) _ (IsB.of_own HO9.out (HYR.out.append HU.out.rng))).mono ?_
  unfold TKPost
  rw [HFY.out]
  rintro e w10 ⟨rfl, g10⟩
  have G10 := Lib.hid (bel_call (bel_call G7.out HB9.out) g10)
  have P10 := Lib.hid (bel_call HB9.out g10)
  have HBV10 := Lib.hid (HBV7.out.below P10.out)
  have HA10 := Lib.hid (HA7.out.below P10.out)
  clear g10
  go_wp2_with (first
    | (at_builtin; refine wpList_append_bytes (w := w10.alloc (.cells #[] 5)) (base := w10.heap.size) (.tmp 68) (.tmp 69) _ rfl rfl i0 _ Tryd.underlying23 HI.out HZ0.out HZ1.out HZ2.out rfl _ [] X rfl rfl (World.ownsRow_lit w10 #[] 0 (Nat.le_refl _) (by simp [maxLen]) (by simp)) (HBV10.out.isB.alloc _) (by omega) (by simp) ?_; intro v11 w11 hown11 hb11; simp only [Nat.zero_add, List.nil_append] at hown11; have HO11 := Lib.hid hown11; have HB11 := Lib.hid (((Below.refl _ w10).alloc (Nat.le_refl _) _).trans hb11); clear hown11 hb11)
    | (at_builtin; refine wpList_append_bytes (w := w11) (base := w10.heap.size) (.tmp 70) (.tmp 71) _ rfl rfl i0 _ Tryd.underlying23 HI.out HZ0.out HZ1.out HZ2.out rfl u X m rfl rfl HO11.out (HU.out.below (bel_call G10.out HB11.out)) (by omega) HB11.out.size ?_; intro v12 w12 hown12 hb12; have HO12 := Lib.hid hown12; have HB12 := Lib.hid (HB11.out.trans hb12); clear hown12 hb12))
  refine (takeKeyText_any v12 (X ++ m) _ (IsB.of_own HO12.out (HXR.out.append HU.out.rng)) (by rw [List.length_append]; omega)).mono ?_
  unfold TkPost
  rw [HFX.out]
  rintro e w13 ⟨tv, rfl, htv, g13⟩
  have HT := Lib.hid htv
  have P13 := Lib.hid (bel_call HB12.out g13)
  have G13 := Lib.hid (bel_call G10.out P13.out)
  have HA13 := Lib.hid (HA10.out.below P13.out)
  have HBV13 := Lib.hid (HBV10.out.below P13.out)
  have z12 := HB12.out.size
  have z10 := P10.out.size
  obtain ⟨to, tcap, rfl, -, -, -, -⟩ := htv.form
  clear htv g13
  have hA13 := HA13.out
  have HA14 := Lib.hid hA13
  clear hA13
  go_wp2_with fail
  refine (spoil_any _ _ Y _ HA14.out (by have := HYL.out; omega)).mono ?_
  unfold SpoilPost
  rintro e w14 ⟨rfl, g14⟩
  have bA : ∀ k, (Value.slice aao 8 acap).ownBlock = some k → w2.heap.size ≤ k ∧ k < w3.heap.size := fun k hk => HA.out.lt k hk
  have BA := Lib.hid bA
  have z13 := P13.out.size
  have z47 : w4.heap.size ≤ w7.heap.size := by omega
  have HT14 := Lib.hid (HT.out.kept g14 (apart_lt (b2 := w12.heap.size) HT.out (fun k hk => by have := BA.out k hk; omega)))
  have HBV14 := Lib.hid (HBV13.out.kept g14 (apart_lt (b2 := w3.heap.size) HBV13.out (fun k hk => (BA.out k hk).2)))
  have G14 := Lib.hid (bel_row G13.out g14 (fun k hk => by have := (BA.out k hk).1; omega))
  clear g14 bA
  go_wp2_with fail
  refine (spoil_any _ _ X _ HBV14.out (by omega)).mono ?_
  unfold SpoilPost
  rintro e w15 ⟨rfl, g15⟩
  have bB : ∀ k, (Value.slice bo X.length bcap).ownBlock = some k → w3.heap.size ≤ k ∧ k < w4.heap.size := fun k hk => HBV.out.lt k hk
  have BB := Lib.hid bB
  have HT15 := Lib.hid (HT14.out.kept g15 (apart_lt (b2 := w12.heap.size) HT14.out (fun k hk => by have := BB.out k hk; omega)))
  have G15 := Lib.hid (bel_row G14.out g15 (fun k hk => by have := (BB.out k hk).1; omega))
  have c1 := HT15.out.isB.conv Tryd.underlying23 Tryd.underlying5 Tryd.underlying9
  have c2 := (HB.out.below G15.out).conv Tryd.underlying23 Tryd.underlying5 Tryd.underlying9
  clear g15 bB
  go_wp2_with fail
  go_ret
  exact ⟨rfl, G15.out⟩
end Codec
end Go.Proofs.YtlolgiphppbcmaaDoor
