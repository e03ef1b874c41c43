/- The walk of CodecTurned. -/
import Derived.Test.YtlolgiphppbcmaaCodecFramesW
import Derived.Test.YtlolgiphppbcmaaCodecInj
namespace Go.Proofs.Ytlolgiphppbcmaa
open Go.RowKit
namespace Codec
/-- a frame with one byte of its sum or its body turned -/
theorem turned_spoilt {kd : Int} {l : List Int} (hr : Rng l) (hl : l.length ≤ 2097152) {r : Nat} {x y : Int} (hlt : r < l.length + 4) (hx : 0 ≤ x ∧ x ≤ 255)
    (hy : (frameF kd l)[(numN l.length).length + 1 + r]? = some y) (hne : x ≠ y) : takeFrameF ((frameF kd l).set ((numN l.length).length + 1 + r) x) = (0, [], 0, 13) := by
  have hA : (headF kd l).length = (numN l.length).length + 1 := rfl
  have hS := le4_len (sumsF (headF kd l) l)
  unfold frameF at hy ⊢
  by_cases h4 : r < 4
  · have e1 : (headF kd l ++ le4 (sumsF (headF kd l) l) ++ l).set ((numN l.length).length + 1 + r) x = headF kd l ++ (le4 (sumsF (headF kd l) l)).set r x ++ l := by
      rw [List.append_assoc, List.set_append, if_neg (by omega), List.set_append, if_pos (by rw [hS]; omega), ← List.append_assoc]
      congr 3
      omega
    have e2 : (headF kd l ++ le4 (sumsF (headF kd l) l) ++ l)[(numN l.length).length + 1 + r]? = (le4 (sumsF (headF kd l) l))[r]? := by
      rw [List.append_assoc, List.getElem?_append_right (by omega), List.getElem?_append_left (by rw [hS]; omega)]
      congr 1
      omega
    rw [e2] at hy
    rw [e1]
    have h := takeFrameF_of (k := kd) (S := (le4 (sumsF (headF kd l) l)).set r x) (B := l) (m := []) hl (by rw [List.length_set]; rfl) rfl
    rw [List.append_nil] at h
    refine h.trans (if_pos fun he => hne ?_)
    have h5 := congrArg (fun z => z[r]?) he
    have h6 : ((le4 (sumsF (headF kd l) l)).set r x)[r]? = some x := by rw [List.getElem?_set_self]; rw [hS]; exact h4
    have h7 : (le4 (sumsF (kd :: numN l.length) l))[r]? = some y := hy
    simp only [h6, h7] at h5
    exact Option.some.inj h5
  · obtain ⟨q, rfl⟩ : ∃ q, r = 4 + q := ⟨r - 4, by omega⟩
    have e1 : (headF kd l ++ le4 (sumsF (headF kd l) l) ++ l).set ((numN l.length).length + 1 + (4 + q)) x = headF kd l ++ le4 (sumsF (headF kd l) l) ++ l.set q x := by
      rw [List.set_append, if_neg (by rw [List.length_append]; omega)]
      congr 2
      rw [List.length_append]; omega
    have e2 : (headF kd l ++ le4 (sumsF (headF kd l) l) ++ l)[(numN l.length).length + 1 + (4 + q)]? = l[q]? := by
      rw [List.getElem?_append_right (by rw [List.length_append]; omega)]
      congr 1
      rw [List.length_append]; omega
    rw [e2] at hy
    rw [e1]
    have h := takeFrameF_of (k := kd) (S := le4 (sumsF (headF kd l) l)) (B := l.set q x) (m := []) hl rfl (List.length_set ..)
    rw [List.append_nil] at h
    refine h.trans (if_pos fun he => hne ?_)
    have h5 := le4_inj (sumsF_rng _ _) (sumsF_rng _ _) he
    have h6 := sumsF_set (a := headF kd l) (x := x) (k := q) hr hx (by omega) h5.symm
    rw [hy] at h6
    exact (Option.some.inj h6).symm
set_option maxRecDepth 100000 in
set_option maxHeartbeats 2000000 in
theorem turned_walk (kd : Int) (hkd : 0 ≤ kd ∧ kd ≤ 255) (v : Value) (l : List Int) (at_ by_ : Int) (w : World) (h : IsB w v l) (ha : -9223372036854775808 ≤ at_ ∧ at_ ≤ 9223372036854775807) (hb : 0 ≤ by_ ∧ by_ ≤ 255) :
    Calls Try.prog 9 #[.int .u8 kd, v, .int .i64 at_, .int .u8 by_] w (Ret (.bool true) w) := by
  have hm := h.max
  obtain ⟨ao, cap, rfl, hnc, hcap, -⟩ := h.form
  have HB := Lib.hid h
  by_cases hlong : 2097152 < l.length
  · clear h
    go_enter Try.func9, Try.ntmps9
    go_wp2_with fail
    refine (shown_any _).mono ?_
    rintro e w1 ⟨rfl, g1⟩
    have G1 := Lib.hid g1
    clear g1
    go_wp2_with fail
    refine (frame_long kd _ l w1 (HB.out.below G1.out) hlong).mono ?_
    rintro e w2 ⟨rfl, rfl⟩
    go_wp2_with fail
    go_ret
    exact ⟨rfl, G1.out⟩
  · have hl : l.length ≤ 2097152 := by omega
    have h10 := numN_len10 (n := l.length) (by omega)
    obtain ⟨X, hX⟩ : ∃ X, frameF kd l = X := ⟨_, rfl⟩
    have hXl : X.length = (numN l.length).length + 5 + l.length := by rw [← hX]; simp [frameF, headF, le4_len]; omega
    obtain ⟨n, hn⟩ : ∃ n, (numN l.length).length = n := ⟨_, rfl⟩
    rw [hn] at hXl h10
    have HN := Lib.hid hn
    have HXL := Lib.hid hXl
    have HXR := Lib.hid (show Rng X by rw [← hX]; exact frameF_rng hkd h.rng)
    have HX := Lib.hid hX
    have hX20 : X.length ≤ 2097167 := by omega
    clear h hX hn hXl
    by_cases hneg : at_ < 0 ∨ by_ = 0
    · have q : (decide (at_ < 0) || by_ == 0) = true := by
        rw [Bool.or_eq_true, decide_eq_true_iff, beq_iff_eq]; exact hneg
      go_enter Try.func9, Try.ntmps9
      go_wp2_with fail
      refine (shown_any _).mono ?_
      rintro e w1 ⟨rfl, g1⟩
      have G1 := Lib.hid g1
      clear g1
      go_wp2_with fail
      refine (frame_ok kd hkd _ l w1 (HB.out.below G1.out) hl).mono ?_
      unfold FramePost
      rw [HX.out]
      rintro e w2 ⟨bv, rfl, hbv, g2⟩
      have G2 := Lib.hid (bel_call G1.out g2)
      obtain ⟨bo, bcap, rfl, -, -, -, -⟩ := own_form hbv
      clear hbv g2
      by_cases h1 : at_ < 0
      · clear q hneg
        go_wp2_with fail
        go_ret
        exact ⟨rfl, G2.out⟩
      · have h2 : by_ = 0 := hneg.resolve_left h1
        subst h2
        have h3 : 0 ≤ at_ := by omega
        clear q hneg
        go_wp2_with fail
        go_ret
        exact ⟨rfl, G2.out⟩
    · have h1 : 0 ≤ at_ := by omega
      have h2 : by_ ≠ 0 := fun h => hneg (.inr h)
      clear hneg
      obtain ⟨A, rfl⟩ := Int.eq_ofNat_of_zero_le h1
      obtain ⟨r, hr⟩ : ∃ r, A % (l.length + 4) = r := ⟨_, rfl⟩
      have hrl : r < l.length + 4 := by rw [← hr]; exact Nat.mod_lt _ (by omega)
      have hrI : (A : Int) % ((l.length : Int) + 4) = (r : Int) := by rw [← hr]; push_cast; rfl
      have hw1 := IntWalk.i64_in ((l.length : Int) + 4) (by omega)
      have hw2 := IntWalk.i64_in ((n : Int) + 1 + r) (by omega)
      have q : (by_ == 0) = false := beq_eq_false_iff_ne.2 h2
      have HR := Lib.hid hr
      clear hr
      go_enter Try.func9, Try.ntmps9
      go_wp2_with fail
      refine (shown_any _).mono ?_
      rintro e w1 ⟨rfl, g1⟩
      have G1 := Lib.hid g1
      clear g1
      go_wp2_with fail
      refine (frame_ok kd hkd _ l w1 (HB.out.below G1.out) hl).mono ?_
      unfold FramePost
      rw [HX.out]
      rintro e w2 ⟨bv, rfl, hbv, g2⟩
      have G2 := Lib.hid (bel_call G1.out g2)
      have HO := Lib.hid (OwnS.of_own hbv HXR.out)
      obtain ⟨bo, bcap, rfl, hbc, -, -, -⟩ := own_form hbv
      obtain ⟨g, c, rfl, hg1, hg2, hx, hc, hcf⟩ := HO.out.at_ (k := n + 1 + r) (by have := HXL.out; omega)
      have hcr := HXR.out c (List.mem_of_getElem? hx.out)
      have z1 := G1.out.size
      have hz1 : (X.length : Int) - l.length - 4 = (n : Int) + 1 := by have := HXL.out; omega
      have hz2 := IntWalk.i64_in ((X.length : Int) - l.length) (by have := HXL.out; omega)
      have hz3 := IntWalk.i64_in ((n : Int) + 1) (by omega)
      have hz4 : (n : Int) + 1 + r < X.length := by have := HXL.out; omega
      have hz5 : ((n : Int) + 1 + r).toNat = n + 1 + r := by omega
      clear hbv g2
      go_wp2_with fail
      have hst := OwnS.stored HO.out (k := n + 1 + r) (x := bits .xor .u8 c by_) (by have := HXL.out; omega) (turn_rng _ _)
      have HST := Lib.hid hst
      have G3 := Lib.hid (G2.out.setCell (p := ⟨g, n + 1 + r, none⟩) (by simp only; omega) (.int .u8 (bits .xor .u8 c by_)))
      have hT : takeFrameF (X.set (n + 1 + r) (bits .xor .u8 c by_)) = (0, [], 0, 13) := by
        have hy := hx.out
        rw [← HX.out, ← HN.out] at hy ⊢
        exact turned_spoilt HB.out.rng hl hrl (turn_rng _ _) hy (turn_ne hcr hb h2)
      have HTT := Lib.hid hT
      clear hst hT
      refine (takeFrame_any _ (X.set (n + 1 + r) (bits .xor .u8 c by_)) _ HST.out.isB (by rw [List.length_set]; omega)).mono ?_
      unfold TFPost
      rw [HTT.out]
      rintro e w4 ⟨tv, rfl, htv, g4⟩
      have G4 := Lib.hid (G3.out.trans (g4.mono (by show w.heap.size ≤ (w2.setCell _ _).heap.size; exact Nat.le_trans G2.out.size (by simp))))
      obtain ⟨to, tcap, rfl, -, -, -, -⟩ := htv.form
      clear htv g4
      go_wp2_with fail
      go_ret
      exact ⟨rfl, G4.out⟩
end Codec
end Go.Proofs.Ytlolgiphppbcmaa
