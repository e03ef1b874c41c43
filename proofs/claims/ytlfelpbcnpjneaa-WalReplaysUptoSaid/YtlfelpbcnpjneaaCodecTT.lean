/- codec: TakeText of both. -/
import Derived.Test.YtlfelpbcnpjneaaCodecLen
import Derived.Test.YtlfelpbcnpjneaaCodecXW
namespace Go.Proofs.Ytlfelpbcnpjneaa
open Go.RowKit
namespace Codec
theorem clone_any' (ao : Option Addr) (n cap : Nat) (l : List Int) (w : World) (h : IsB w (.slice ao n cap) l) (hl : l.length ≤ 140737488355328) :
    Calls Try.prog 39 #[.slice ao n cap] w (ClonePost l w) := by
  have hn : n = l.length := by
    obtain ⟨_, _, _, h1, _⟩ := h
    simp only [Value.slice.injEq] at h1
    exact h1.2.1
  subst hn
  exact clone_any ao cap l w h hl
def takeTextF (l : List Int) : List Int × Int × Int :=
  if (lenF l 0).2.2 ≠ 0 then ([], 0, (lenF l 0).2.2) else ((l.drop (lenF l 0).2.1.toNat).take (lenF l 0).1.toNat, (lenF l 0).2.1 + (lenF l 0).1, 0)
theorem lenF_bd {l : List Int} (h : Rng l) (more : Int) (hm : 0 ≤ more) : 0 ≤ (lenF l more).2.2 ∧ (lenF l more).2.2 ≤ 12 ∧ ((lenF l more).2.2 = 0 → 0 ≤ (lenF l more).1 ∧ (lenF l more).1 ≤ 2097152 ∧ 0 ≤ (lenF l more).2.1 ∧ (lenF l more).2.1 + more + (lenF l more).1 ≤ l.length) := by
  have hb := takeN_bd h
  have e : lenF l more = if (takeN l).2.2 ≠ 0 then (0, 0, (takeN l).2.2) else if 2097152 < (takeN l).1 then (0, 0, 12) else if (l.length : Int) - (takeN l).2.1 - more < (takeN l).1 then (0, 0, 10) else ((takeN l).1, (takeN l).2.1, 0) := rfl
  by_cases h1 : (takeN l).2.2 ≠ 0
  · rw [if_pos h1] at e; rw [e]; simp only; omega
  · rw [if_neg h1] at e
    by_cases h2 : 2097152 < (takeN l).1
    · rw [if_pos h2] at e; rw [e]; simp
    · rw [if_neg h2] at e
      by_cases h3 : (l.length : Int) - (takeN l).2.1 - more < (takeN l).1
      · rw [if_pos h3] at e; rw [e]; simp
      · rw [if_neg h3] at e; rw [e]; simp only; omega
def TTPost (l : List Int) (w : World) (e : Ending) (w' : World) : Prop :=
  ∃ v, e = .returned (.tuple #[v, .int .i64 (takeTextF l).2.1, .int .i64 (takeTextF l).2.2]) ∧ OwnS w' w.heap.size 5 v (takeTextF l).1 ∧ Below w.heap.size w w'
set_option maxRecDepth 100000 in
set_option maxHeartbeats 1000000 in
theorem takeText_any (v : Value) (l : List Int) (w : World) (h : IsB w v l) :
    Calls Try.prog 49 #[v] w (TTPost l w) := by
  have hbd := lenF_bd h.rng 0 (by decide)
  have hm := h.max
  have HL := Lib.hid (length_any v l 0 w h (by decide))
  obtain ⟨ao, cap, rfl, hnc, hcap, _⟩ := h.form
  have HB := Lib.hid h
  have hF : takeTextF l = if (lenF l 0).2.2 ≠ 0 then ([], 0, (lenF l 0).2.2) else ((l.drop (lenF l 0).2.1.toNat).take (lenF l 0).1.toNat, (lenF l 0).2.1 + (lenF l 0).1, 0) := rfl
  generalize lenF l 0 = t at HL hF hbd
  obtain ⟨n, at_, e⟩ := t
  simp only at HL hF hbd
  obtain ⟨b1, b2, b3⟩ := hbd
  clear h
  by_cases he : e = 0
  · obtain ⟨c1, c2, c3, c4⟩ := b3 he
    subst he
    obtain ⟨N, rfl⟩ := Int.eq_ofNat_of_zero_le c1
    obtain ⟨K, rfl⟩ := Int.eq_ofNat_of_zero_le c3
    rw [if_neg (by simp)] at hF
    simp only [Int.toNat_natCast] at hF
    have hKN : K + N ≤ l.length := by omega
    have hcutB := HB.out.cut K N hKN
    have hseg : ((l.drop K).take N).length = N := by rw [List.length_take, List.length_drop]; omega
    generalize (l.drop K).take N = S at hF hcutB hseg
    have HF := Lib.hid hF
    have HCB := Lib.hid hcutB
    have HSEG := Lib.hid hseg
    clear hF b3 c1 c3 c4 hseg hcutB
    by_cases hck : cap = K
    · subst hck
      have hN0 : N = 0 := by omega
      subst hN0
      have hB0 := HB.out.cut0
      have hS0 : S = [] := List.eq_nil_of_length_eq_zero HSEG.out
      subst hS0
      have HB0 := Lib.hid hB0
      clear hB0
      go_enter Try.func49, Try.ntmps49
      go_wp2_with fail
      refine HL.out.mono ?_
      rintro e w1 ⟨rfl, rfl⟩
      go_wp2_with fail
      refine (clone_any' _ _ _ [] w HB0.out (by simp)).mono ?_
      unfold ClonePost
      rintro e w2 ⟨cv, rfl, hcv, g2⟩
      obtain ⟨co, ccap, rfl, q1, q2, q3, q4⟩ := hcv.form
      have HC := Lib.hid hcv
      have G2 := Lib.hid g2
      clear q3 q4 hcv g2
      go_wp2_with fail
      refine (clip_any co _ ccap _ q1 q2).mono ?_
      rintro e w3 ⟨rfl, rfl⟩
      go_wp2_with fail
      go_ret3
      exact ⟨_, ret_tk HF.out, by rw [HF.out]; exact HC.out.clip, G2.out⟩
    · go_enter Try.func49, Try.ntmps49
      go_wp2_with fail
      refine HL.out.mono ?_
      rintro e w1 ⟨rfl, rfl⟩
      go_wp2_with fail
      refine (clone_any' _ _ _ S w HCB.out (by have := HSEG.out; omega)).mono ?_
      unfold ClonePost
      rintro e w2 ⟨cv, rfl, hcv, g2⟩
      obtain ⟨co, ccap, rfl, q1, q2, q3, q4⟩ := hcv.form
      have HC := Lib.hid hcv
      have G2 := Lib.hid g2
      clear q3 q4 hcv g2
      go_wp2_with fail
      refine (clip_any co _ ccap _ q1 q2).mono ?_
      rintro e w3 ⟨rfl, rfl⟩
      go_wp2_with fail
      go_ret3
      exact ⟨_, ret_tk HF.out, by rw [HF.out]; exact HC.out.clip, G2.out⟩
  · rw [if_pos he] at hF
    have HF := Lib.hid hF
    have q : (e != 0) = true := by simp [he]
    clear hF b3 he
    go_enter Try.func49, Try.ntmps49
    go_wp2_with fail
    refine HL.out.mono ?_
    rintro e w1 ⟨rfl, rfl⟩
    go_wp2_with fail
    go_ret3
    exact ⟨_, ret_tk HF.out, by rw [HF.out]; exact ⟨Rng.nil, .inl ⟨rfl, rfl⟩⟩, Below.refl _ _⟩
end Codec
end Go.Proofs.Ytlfelpbcnpjneaa
