/- The walk of CodecTorn. -/
import Derived.Test.YtlolgiphppbcmaaDoorCodecKeysW
import Derived.Test.YtlolgiphppbcmaaDoorCodecFramesW
namespace Go.Proofs.YtlolgiphppbcmaaDoor
open Go.RowKit
namespace Codec
theorem takeN_torn {n c : Nat} (hn : n < 18446744073709551616) (hc : c < (numN n).length) : takeN ((numN n).take c) = (0, 0, 10) := by
  obtain ⟨pre, z, h1, h2, -, -, -, -⟩ := numN_shape n
  have hlen := numN_len10 hn
  have hl : ((numN n).take c).length = c := by rw [List.length_take]; omega
  refine take_short (k := c) (fun x hx => ?_) (by omega) hl.symm
  rw [List.take_take, Nat.min_self, h1] at hx
  rw [h1, List.length_append] at hc
  rw [List.take_append_of_le_length (by simp at hc; omega)] at hx
  exact h2 x (List.mem_of_mem_take hx)
theorem lenF_torn {n c more : Nat} (hn : n ≤ 2097152) (r : List Int) (hc : c < (numN n).length + more + n) : lenF ((numN n ++ r).take c) more = (0, 0, 10) := by
  by_cases h : c < (numN n).length
  · have e : (numN n ++ r).take c = (numN n).take c := List.take_append_of_le_length (by omega)
    unfold lenF
    rw [e, takeN_torn (by omega) h]
    simp
  · have e : (numN n ++ r).take c = numN n ++ r.take (c - (numN n).length) := by rw [List.take_append, List.take_of_length_le (by omega)]
    unfold lenF
    rw [e, takeN_num (by omega)]
    simp only [List.length_append, List.length_take]
    rw [if_neg (by simp), if_neg (by omega), if_pos (by omega)]
theorem takeTextF_torn {l : List Int} {c : Nat} (hl : l.length ≤ 2097152) (hc : c < (numN l.length ++ l).length) : takeTextF ((numN l.length ++ l).take c) = ([], 0, 10) := by
  have e : lenF ((numN l.length ++ l).take c) 0 = (0, 0, 10) := lenF_torn (more := 0) hl l (by rw [List.length_append] at hc; omega)
  unfold takeTextF
  rw [e, if_pos (by decide)]
theorem takeFrameF_torn {k : Int} {l : List Int} {c : Nat} (hl : l.length ≤ 2097152) (hc : c < (frameF k l).length) : takeFrameF ((frameF k l).take c) = (0, [], 0, 10) := by
  have hfl : (frameF k l).length = (numN l.length).length + 5 + l.length := by simp [frameF, headF, le4_len]; omega
  cases c with
  | zero => rfl
  | succ c =>
    have e1 : ((frameF k l).take (c + 1)).drop 1 = (numN l.length ++ (le4 (sumsF (headF k l) l) ++ l)).take c := by
      unfold frameF headF
      simp
    have e2 : lenF ((numN l.length ++ (le4 (sumsF (headF k l) l) ++ l)).take c) 4 = (0, 0, 10) := lenF_torn (more := 4) hl _ (by omega)
    unfold takeFrameF
    rw [e1, e2, if_neg (by rw [List.length_take]; omega), if_pos (by decide)]
theorem tkL_torn : ∀ {l : List Int} {c : Nat}, c < (keyT l).length → tkL ((keyT l).take c) = ([], 0, 10)
  | [], 0, _ => tk_nil
  | [], 1, _ => tk_one 0
  | [], c + 2, h => absurd h (by show ¬ c + 2 < 2; omega)
  | x :: l, 0, _ => by rw [List.take_zero]; exact tk_nil
  | x :: l, c + 1, h => by
    by_cases hx : x = 0
    · subst hx
      have e : keyT (0 :: l) = 0 :: 255 :: keyT l := by simp [keyT, repl]
      rw [e] at h ⊢
      cases c with
      | zero => exact tk_one 0
      | succ c =>
        rw [List.take_succ_cons, List.take_succ_cons, tk_ff, tkL_torn (by simpa using h)]
        rfl
    · have e : keyT (x :: l) = x :: keyT l := by simp [keyT, repl, hx]
      rw [e] at h ⊢
      rw [List.take_succ_cons, tk_cons hx, tkL_torn (by simpa using h)]
      rfl
theorem takeKeyIntF_torn {n : Int} {c : Nat} (hc : c < 8) : takeKeyIntF ((keyL n).take c) = (0, 0, 10) := by
  unfold takeKeyIntF
  rw [if_pos (by rw [List.length_take]; omega)]
set_option maxRecDepth 100000 in
set_option maxHeartbeats 4000000 in
theorem torn_walk (kd : Int) (hkd : 0 ≤ kd ∧ kd ≤ 255) (v : Value) (l : List Int) (cut : Int) (w : World) (h : IsB w v l) (hcut : -9223372036854775808 ≤ cut ∧ cut ≤ 9223372036854775807) :
    Calls Tryd.prog 5 #[.int .u8 kd, v, .int .i64 cut] w (Ret (.bool true) w) := by
  have hm := h.max
  obtain ⟨ao, cap, rfl, hnc, hcap, -⟩ := h.form
  have HB := Lib.hid h
  by_cases hlong : 2097152 < l.length
  · clear h
    go_enter Tryd.func5, Tryd.ntmps5
    go_wp2_with fail
    refine (shown_any _).mono ?_
    rintro e w1 ⟨rfl, g1⟩
    have G1 := Lib.hid g1
    clear g1
    go_wp2_with fail
    refine (frame_long kd _ l w1 (HB.out.below G1.out) hlong).mono ?_
    rintro e w2 ⟨rfl, rfl⟩
    go_wp2_with fail
    go_ret
    exact ⟨rfl, G1.out⟩
  · have hl : l.length ≤ 2097152 := by omega
    obtain ⟨X, hX⟩ : ∃ X, frameF kd l = X := ⟨_, rfl⟩
    obtain ⟨Y, hY⟩ : ∃ Y, numN l.length ++ l = Y := ⟨_, rfl⟩
    obtain ⟨Z, hZ⟩ : ∃ Z, keyT l = Z := ⟨_, rfl⟩
    have h10 := numN_len10 (n := l.length) (by omega)
    have hXl : 5 ≤ X.length ∧ X.length ≤ 2097167 := by rw [← hX]; simp [frameF, headF, le4_len]; omega
    have hYp := numN_pos l.length
    have hYl : 1 ≤ Y.length ∧ Y.length ≤ 2097162 := by rw [← hY, List.length_append]; omega
    have hZl : 1 ≤ Z.length ∧ Z.length ≤ 4194306 := by rw [← hZ]; unfold keyT; rw [List.length_append, repl_len]; have : l.count 0 ≤ l.length := List.count_le_length; simp; omega
    have HX := Lib.hid hX
    have HY := Lib.hid hY
    have HZ := Lib.hid hZ
    have HXR := Lib.hid (show Rng X by rw [← hX]; exact frameF_rng hkd h.rng)
    have HYR := Lib.hid (show Rng Y by rw [← hY]; exact (numN_rng _).append h.rng)
    have HZR := Lib.hid (show Rng Z by rw [← hZ]; exact keyT_rng h.rng)
    obtain ⟨x1, x2⟩ := hXl
    obtain ⟨y1, y2⟩ := hYl
    obtain ⟨z1, z2⟩ := hZl
    clear h hX hY hZ h10 hYp
    by_cases hneg : cut < 0
    · go_enter Tryd.func5, Tryd.ntmps5
      go_wp2_with fail
      refine (shown_any _).mono ?_
      rintro e w1 ⟨rfl, g1⟩
      have G1 := Lib.hid g1
      clear g1
      go_wp2_with fail
      refine (frame_ok kd hkd _ l w1 (HB.out.below G1.out) hl).mono ?_
      unfold FramePost
      rw [HX.out]
      rintro e w2 ⟨bv, rfl, hbv, g2⟩
      have G2 := Lib.hid (bel_call G1.out g2)
      obtain ⟨bo, bcap, rfl, -, -, -, -⟩ := own_form hbv
      clear hbv g2
      go_wp2_with fail
      go_ret
      exact ⟨rfl, G2.out⟩
    · have h1 : 0 ≤ cut := by omega
      obtain ⟨A, rfl⟩ := Int.eq_ofNat_of_zero_le h1
      obtain ⟨a, ha⟩ : ∃ a, A % X.length = a := ⟨_, rfl⟩
      obtain ⟨b, hb⟩ : ∃ b, A % Y.length = b := ⟨_, rfl⟩
      obtain ⟨c, hc⟩ : ∃ c, A % Z.length = c := ⟨_, rfl⟩
      obtain ⟨d, hd⟩ : ∃ d, A % 8 = d := ⟨_, rfl⟩
      have hal : a < X.length := by rw [← ha]; exact Nat.mod_lt _ (by omega)
      have hbl : b < Y.length := by rw [← hb]; exact Nat.mod_lt _ (by omega)
      have hcl : c < Z.length := by rw [← hc]; exact Nat.mod_lt _ (by omega)
      have hdl : d < 8 := by omega
      have haI : (A : Int) % (X.length : Int) = (a : Int) := by rw [← ha]; rfl
      have hbI : (A : Int) % (Y.length : Int) = (b : Int) := by rw [← hb]; rfl
      have hcI : (A : Int) % (Z.length : Int) = (c : Int) := by rw [← hc]; rfl
      have hdI : (A : Int) % 8 = (d : Int) := by omega
      have TA := Lib.hid (show takeFrameF (X.take a) = (0, [], 0, 10) by rw [← HX.out]; exact takeFrameF_torn hl (by rw [HX.out]; exact hal))
      have TB := Lib.hid (show takeTextF (Y.take b) = ([], 0, 10) by rw [← HY.out]; exact takeTextF_torn hl (by rw [HY.out]; exact hbl))
      have TC := Lib.hid (show tkL (Z.take c) = ([], 0, 10) by rw [← HZ.out]; exact tkL_torn (by rw [HZ.out]; exact hcl))
      have TD := Lib.hid (takeKeyIntF_torn (n := A) hdl)
      have HYL := Lib.hid (keyL_rng (n := (A : Int)) ⟨by omega, hcut.2⟩)
      have q1 : ((X.length : Int) == 0) = false := beq_eq_false_iff_ne.2 (by omega)
      have q2 : ((Y.length : Int) == 0) = false := beq_eq_false_iff_ne.2 (by omega)
      have q3 : ((Z.length : Int) == 0) = false := beq_eq_false_iff_ne.2 (by omega)
      clear ha hb hc hd
      go_enter Tryd.func5, Tryd.ntmps5
      go_wp2_with fail
      refine (shown_any _).mono ?_
      rintro e w1 ⟨rfl, g1⟩
      have G1 := Lib.hid g1
      clear g1
      go_wp2_with fail
      refine (frame_ok kd hkd _ l w1 (HB.out.below G1.out) hl).mono ?_
      unfold FramePost
      rw [HX.out]
      rintro e w2 ⟨bv, rfl, hbv, g2⟩
      have G2 := Lib.hid (bel_call G1.out g2)
      have HV := Lib.hid (IsB.of_own hbv HXR.out)
      obtain ⟨bo, bcap, rfl, hxc, -, -, -⟩ := own_form hbv
      clear hbv g2
      go_wp2_with fail
      refine (text_ok _ l w2 (HB.out.below G2.out) hl).mono ?_
      unfold TextPost
      rw [HY.out]
      rintro e w3 ⟨tv, rfl, htv, g3⟩
      have G3 := Lib.hid (bel_call G2.out g3)
      have P3 := Lib.hid g3
      have HT := Lib.hid (IsB.of_own htv HYR.out)
      obtain ⟨to, tcap, rfl, hyc, -, -, -⟩ := own_form htv
      clear htv g3
      go_wp2_with fail
      refine (keyText_any _ l w3 (HB.out.below G3.out) (by omega)).mono ?_
      unfold KeyTPost
      rw [HZ.out]
      rintro e w4 ⟨kv, rfl, hkv, g4⟩
      have G4 := Lib.hid (bel_call G3.out g4)
      have P4 := Lib.hid g4
      have HK := Lib.hid (IsB.of_own hkv HZR.out)
      obtain ⟨ko, kcap, rfl, hzc, -, -, -⟩ := own_form hkv
      clear hkv g4
      go_wp2_with fail
      refine (keyInt_any A w4 ⟨by omega, hcut.2⟩).mono ?_
      unfold KeyPost
      rintro e w5 ⟨iv, rfl, hiv, g5⟩
      have G5 := Lib.hid (bel_call G4.out g5)
      have P5 := Lib.hid g5
      have HI := Lib.hid (IsB.of_own hiv HYL.out)
      obtain ⟨io, icap, rfl, hic, -, -, -⟩ := own_form hiv
      clear hiv g5
      have R4 := Lib.hid P5.out
      have R3 := Lib.hid (bel_call P4.out P5.out)
      have R2 := Lib.hid (bel_call P3.out R3.out)
      have F1 := Lib.hid (IsB.front (HV.out.below R2.out) a (by omega))
      have F2 := Lib.hid (IsB.front (HT.out.below R3.out) b (by omega))
      have F3 := Lib.hid (IsB.front (HK.out.below R4.out) c (by omega))
      have F4 := Lib.hid (IsB.front (show IsB w5 (.slice io 8 icap) (keyL A) from HI.out) d (by rw [keyL_len]; omega))
      have a1 : (a : Int) ≤ bcap := by omega
      have b1 : (b : Int) ≤ tcap := by omega
      have c1 : (c : Int) ≤ kcap := by omega
      have d1 : (d : Int) ≤ icap := by omega
      go_wp2_with fail
      refine (takeFrame_any _ _ w5 F1.out (by rw [List.length_take]; omega)).mono ?_
      unfold TFPost
      rw [TA.out]
      rintro e w6 ⟨v6, rfl, hv6, g6⟩
      have P6 := Lib.hid g6
      obtain ⟨_, _, rfl, -, -, -, -⟩ := hv6.form
      clear hv6 g6
      go_wp2_with fail
      refine (takeText_any _ _ w6 (F2.out.below P6.out)).mono ?_
      unfold TTPost
      rw [TB.out]
      rintro e w7 ⟨v7, rfl, hv7, g7⟩
      have P7 := Lib.hid (bel_call P6.out g7)
      obtain ⟨_, _, rfl, -, -, -, -⟩ := hv7.form
      clear hv7 g7
      go_wp2_with fail
      refine (takeKeyText_any _ _ w7 (F3.out.below P7.out) (by rw [List.length_take]; omega)).mono ?_
      unfold TkPost
      rw [TC.out]
      rintro e w8 ⟨v8, rfl, hv8, g8⟩
      have P8 := Lib.hid (bel_call P7.out g8)
      obtain ⟨_, _, rfl, -, -, -, -⟩ := hv8.form
      clear hv8 g8
      go_wp2_with fail
      refine (takeKeyInt_any _ _ w8 (F4.out.below P8.out)).mono ?_
      unfold TKPost
      rw [TD.out]
      rintro e w9 ⟨rfl, g9⟩
      have P9 := Lib.hid (bel_call P8.out g9)
      clear g9
      go_wp2_with fail
      go_ret
      exact ⟨rfl, bel_call G5.out P9.out⟩
end Codec
end Go.Proofs.YtlolgiphppbcmaaDoor
