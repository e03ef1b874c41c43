/- codec: the document's TakeText. -/
import Derived.Test.YtlfelpbcnpjneaaCodecTT
namespace Go.Proofs.Ytlfelpbcnpjneaa
open Go.RowKit
namespace Codec
set_option maxRecDepth 100000 in
set_option maxHeartbeats 2000000 in
theorem rTakeText_any (v : Value) (l : List Int) (w : World) (h : IsB w v l) (hl : l.length ≤ 140737488355328) :
    Calls Try.prog 36 #[v] w (TTPost l w) := by
  have hbd := takeN_bd h.rng
  have HT := Lib.hid (rTakeNumber_any v l w h)
  unfold RTPost at HT
  obtain ⟨ao, cap, rfl, hnc, hcap, _⟩ := h.form
  have HB := Lib.hid h
  have hL : lenF l 0 = if (takeN l).2.2 ≠ 0 then (0, 0, (takeN l).2.2) else if 2097152 < (takeN l).1 then (0, 0, 12) else if (l.length : Int) - (takeN l).2.1 - 0 < (takeN l).1 then (0, 0, 10) else ((takeN l).1, (takeN l).2.1, 0) := rfl
  have hF : takeTextF l = if (lenF l 0).2.2 ≠ 0 then ([], 0, (lenF l 0).2.2) else ((l.drop (lenF l 0).2.1.toNat).take (lenF l 0).1.toNat, (lenF l 0).2.1 + (lenF l 0).1, 0) := rfl
  generalize takeN l = t at HT hL hbd
  obtain ⟨n, at_, e⟩ := t
  simp only at HT hL hbd
  obtain ⟨⟨c1, b2⟩, ⟨c3, b4⟩, b5, b6⟩ := hbd
  obtain ⟨N, rfl⟩ := Int.eq_ofNat_of_zero_le c1
  obtain ⟨K, rfl⟩ := Int.eq_ofNat_of_zero_le c3
  have bad : ∀ x : Int, lenF l 0 = (0, 0, x) → x ≠ 0 → takeTextF l = ([], 0, x) := by
    intro x hx h0
    rw [hF, hx, if_pos h0]
  obtain ⟨i0, hi0, hz0, hz1, hz2⟩ := info_parts infoU8
  have HI := Lib.hid hi0; have HZ0 := Lib.hid hz0; have HZ1 := Lib.hid hz1; have HZ2 := Lib.hid hz2
  clear h hi0 hz0 hz1 hz2
  by_cases he : e = 0
  · subst he
    rw [if_neg (by simp)] at hL
    by_cases h1 : (2097152 : Int) < N
    · have HF := Lib.hid (bad 12 (by rw [hL, if_pos h1]) (by decide))
      clear hF hL bad
      go_enter Try.func36, Try.ntmps36
      go_wp2_with fail
      refine HT.out.mono ?_
      rintro e w1 ⟨rfl, rfl⟩
      go_wp2_with fail
      go_ret3
      exact ⟨_, ret_tk HF.out, by rw [HF.out]; exact ⟨Rng.nil, .inl ⟨rfl, rfl⟩⟩, Below.refl _ _⟩
    · rw [if_neg h1] at hL
      by_cases h2 : (l.length : Int) - K - 0 < N
      · have HF := Lib.hid (bad 10 (by rw [hL, if_pos h2]) (by decide))
        have q : decide ((l.length : Int) - (K : Int) < (N : Int)) = true := by simp; omega
        clear hF hL bad
        go_enter Try.func36, Try.ntmps36
        go_wp2_with fail
        refine HT.out.mono ?_
        rintro e w1 ⟨rfl, rfl⟩
        go_wp2_with fail
        go_ret3
        exact ⟨_, ret_tk HF.out, by rw [HF.out]; exact ⟨Rng.nil, .inl ⟨rfl, rfl⟩⟩, Below.refl _ _⟩
      · rw [if_neg h2] at hL
        have hG : takeTextF l = ((l.drop K).take N, (K : Int) + N, 0) := by
          rw [hF, hL, if_neg (by simp)]; rfl
        have hKN : K + N ≤ l.length := by omega
        have hcutB := HB.out.cut K N hKN
        have hseg : ((l.drop K).take N).length = N := by rw [List.length_take, List.length_drop]; omega
        generalize (l.drop K).take N = S at hG hcutB hseg
        have HF := Lib.hid hG
        have HCB := Lib.hid hcutB
        have HSEG := Lib.hid hseg
        have q : decide ((l.length : Int) - (K : Int) < (N : Int)) = false := by simp; omega
        clear hF hL bad hG hcutB hseg
        by_cases hck : cap = K
        · subst hck
          have hN0 : N = 0 := by omega
          subst hN0
          have hS0 : S = [] := List.eq_nil_of_length_eq_zero HSEG.out
          subst hS0
          have HB0 := Lib.hid HB.out.cut0
          go_enter Try.func36, Try.ntmps36
          go_wp2_with fail
          refine HT.out.mono ?_
          rintro e w1 ⟨rfl, rfl⟩
          go_wp2_with (at_builtin; refine wpList_append_bytes (base := w.heap.size) (.tmp 35) (.tmp 39) _ rfl rfl i0 _ Try.underlying28 HI.out HZ0.out HZ1.out HZ2.out rfl _ [] [] rfl rfl (World.ownsRow_nil _ _ _ _) HB0.out (by simp) (Nat.le_refl _) ?_; intro v2 w2 hown2 hb2; simp only [Nat.zero_add, List.nil_append] at hown2; have HO2 := Lib.hid hown2; have HB2 := Lib.hid hb2; clear hown2 hb2)
          go_ret3
          exact ⟨_, ret_tk HF.out, by rw [HF.out]; exact OwnS.of_own HO2.out Rng.nil, HB2.out⟩
        · go_enter Try.func36, Try.ntmps36
          go_wp2_with fail
          refine HT.out.mono ?_
          rintro e w1 ⟨rfl, rfl⟩
          go_wp2_with (at_builtin; refine wpList_append_bytes (base := w.heap.size) (.tmp 35) (.tmp 39) _ rfl rfl i0 _ Try.underlying28 HI.out HZ0.out HZ1.out HZ2.out rfl _ [] S rfl rfl (World.ownsRow_nil _ _ _ _) (by have := HCB.out; rw [show K + N - K = N from by omega]; exact this) (by have := HSEG.out; omega) (Nat.le_refl _) ?_; intro v2 w2 hown2 hb2; simp only [Nat.zero_add, List.nil_append] at hown2; have HO2 := Lib.hid hown2; have HB2 := Lib.hid hb2; clear hown2 hb2)
          go_ret3
          exact ⟨_, ret_tk HF.out, by rw [HF.out]; exact OwnS.of_own HO2.out HCB.out.rng, HB2.out⟩
  · have HF := Lib.hid (bad e (by rw [hL, if_pos he]) he)
    have q : (e != 0) = true := by simp [he]
    clear hF hL bad he
    go_enter Try.func36, Try.ntmps36
    go_wp2_with fail
    refine HT.out.mono ?_
    rintro e w1 ⟨rfl, rfl⟩
    go_wp2_with fail
    go_ret3
    exact ⟨_, ret_tk HF.out, by rw [HF.out]; exact ⟨Rng.nil, .inl ⟨rfl, rfl⟩⟩, Below.refl _ _⟩
end Codec
end Go.Proofs.Ytlfelpbcnpjneaa
