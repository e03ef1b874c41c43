/- wal: the document's Encode. -/
import Derived.Test.YtlfelpbcnpjneaaWalBody
namespace Go.Proofs.Ytlfelpbcnpjneaa
open Go.RowKit
namespace Wal
open Codec
theorem may_encF {seq : Nat} {l : List Opr} : encF seq l = if mayB l = false then ([], 60) else if seq < 1 ∨ 4611686018427387904 < seq + l.length then ([], 61)
    else if 1048576 < (bodyB seq l).length then ([], 62) else (frameF 66 (bodyB seq l), 0) := by
  unfold encF
  by_cases h : l.length < 1 ∨ 256 < l.length ∨ l.all fitsB = false
  · have hm : mayB l = false := by
      unfold mayB
      rcases h with h | h | h
      · rw [decide_eq_false (by omega)]; rfl
      · rw [decide_eq_false (show ¬ l.length ≤ 256 by omega)]; simp
      · rw [h]; simp
    rw [if_pos h, if_pos hm]
  · have hm : mayB l = true := by
      unfold mayB
      have h1 : 1 ≤ l.length := by omega
      have h2 : l.length ≤ 256 := by omega
      have h3 : l.all fitsB = true := by
        cases hc : l.all fitsB
        · exact absurd (.inr (.inr hc)) h
        · rfl
      rw [decide_eq_true h1, decide_eq_true h2, h3]; rfl
    have hm' : ¬ mayB l = false := by rw [hm]; decide
    rw [if_neg h, if_neg hm']
set_option maxRecDepth 100000 in
set_option maxHeartbeats 4000000 in
theorem rEncode_any (seq : Nat) (hseq : seq < 18446744073709551616) (ov : Value) (l : List Opr) (w : World) (h : IsOps w ov l) : Calls Try.prog 8 #[.agg #[.int .u64 seq, ov]] w (EncPost seq l w) := by
  have hm := h.max
  obtain ⟨ao, cap, rfl, hnc, hcap, -⟩ := h.form
  have HB := Lib.hid h
  have hF := may_encF (seq := seq) (l := l)
  have w1b := Lib.hid (bel_alloc (Below.refl _ w) (.cells #[.int .u64 seq, .slice ao l.length cap] 25))
  have HBW := Lib.hid (HB.out.alloc opR_stays (.cells #[.int .u64 seq, .slice ao l.length cap] 25))
  have HOM := Lib.hid (opsMay_any _ l _ HBW.out)
  obtain ⟨may, hmay⟩ : ∃ m, mayB l = m := ⟨_, rfl⟩
  rw [hmay] at HOM hF
  have HMAY := Lib.hid hmay
  clear h hmay
  cases may
  · rw [if_pos rfl] at hF
    have HF := Lib.hid hF
    clear hF
    go_enter Try.func8, Try.ntmps8
    go_wp2_with fail
    refine HOM.out.mono ?_
    rintro e w2 ⟨rfl, hw2⟩
    subst hw2
    go_wp2_with fail
    go_ret2
    exact enc_bad HF.out (by repeat' (first | (with_reducible exact Below.refl _ _) | (with_reducible assumption) | (with_reducible refine Below.drew ?_) | (with_reducible refine below_drewN ?_ _) | (with_reducible refine bel_alloc ?_ _) | (with_reducible refine Below.setCell ?_ ?_ _) | (with_reducible refine bel_call ?_ (by assumption)) | (simp <;> omega)))
  · rw [if_neg (by decide)] at hF
    have hmy := HMAY.out
    unfold mayB at hmy
    simp only [Bool.and_eq_true, decide_eq_true_eq] at hmy
    obtain ⟨⟨l1, l2⟩, hall⟩ := hmy
    have HALL := Lib.hid hall
    have HFF := Lib.hid hF
    clear hF hall
    go_enter Try.func8, Try.ntmps8
    go_wp2_with fail
    refine HOM.out.mono ?_
    rintro e w2 ⟨rfl, hw2⟩
    subst hw2
    have hF := HFF.out
    by_cases hs1 : seq < 1
    · have h0 : seq = 0 := by omega
      subst h0
      rw [if_pos (.inl (by omega))] at hF
      have HF := Lib.hid hF
      clear hF
      go_wp2_with fail
      go_ret2
      exact enc_bad HF.out (by repeat' (first | (with_reducible exact Below.refl _ _) | (with_reducible assumption) | (with_reducible refine Below.drew ?_) | (with_reducible refine below_drewN ?_ _) | (with_reducible refine bel_alloc ?_ _) | (with_reducible refine Below.setCell ?_ ?_ _) | (with_reducible refine bel_call ?_ (by assumption)) | (simp <;> omega)))
    · have q2 : decide ((seq : Int) < 1) = false := decide_eq_false (by omega)
      by_cases hs3 : 4611686018427387904 < seq
      · have q3 : decide (4611686018427387904 < (seq : Int)) = true := decide_eq_true (by omega)
        rw [if_pos (.inr (by omega))] at hF
        have HF := Lib.hid hF
        clear hF
        go_wp2_with fail
        go_ret2
        exact enc_bad HF.out (by repeat' (first | (with_reducible exact Below.refl _ _) | (with_reducible assumption) | (with_reducible refine Below.drew ?_) | (with_reducible refine below_drewN ?_ _) | (with_reducible refine bel_alloc ?_ _) | (with_reducible refine Below.setCell ?_ ?_ _) | (with_reducible refine bel_call ?_ (by assumption)) | (simp <;> omega)))
      · have q3 : decide (4611686018427387904 < (seq : Int)) = false := decide_eq_false (by omega)
        have w1' : IntKind.u64.wrap (4611686018427387904 - (seq : Int)) = 4611686018427387904 - (seq : Int) := by
          simp only [IntKind.wrap, IntKind.bits, IntKind.signed]; simp; omega
        by_cases hs2 : 4611686018427387904 < seq + l.length
        · have q4 : decide (4611686018427387904 - (seq : Int) < (l.length : Int)) = true := decide_eq_true (by omega)
          rw [if_pos (.inr hs2)] at hF
          have HF := Lib.hid hF
          clear hF
          go_wp2_with fail
          go_ret2
          exact enc_bad HF.out (by repeat' (first | (with_reducible exact Below.refl _ _) | (with_reducible assumption) | (with_reducible refine Below.drew ?_) | (with_reducible refine below_drewN ?_ _) | (with_reducible refine bel_alloc ?_ _) | (with_reducible refine Below.setCell ?_ ?_ _) | (with_reducible refine bel_call ?_ (by assumption)) | (simp <;> omega)))
        · have q4 : decide (4611686018427387904 - (seq : Int) < (l.length : Int)) = false := decide_eq_false (by omega)
          rw [if_neg (by omega)] at hF
          have hB := body_any seq hseq _ l _ HBW.out l2 (fun x hx => List.all_eq_true.1 HALL.out x hx)
          unfold BodyPost at hB
          have hBR : Rng (bodyB seq l) := bodyB_rng seq (fun x hx => IsOps.rng HB.out hx)
          have HBR := Lib.hid hBR
          have hFR : Rng (frameF 66 (bodyB seq l)) := ((headF_rng (by decide) _).append (le4_rng _)).append hBR
          have HFR := Lib.hid hFR
          have hbl : (bodyB seq l).length ≤ 20 + l.length * 65836 := by
            have h1 := flat_len (l := l) (fun x hx => List.all_eq_true.1 HALL.out x hx)
            have h2 := numN_len10 hseq
            have h3 := numN_len10 (n := l.length) (by omega)
            unfold bodyB
            simp only [List.length_append]
            omega
          obtain ⟨Y, hY⟩ : ∃ Y, bodyB seq l = Y := ⟨_, rfl⟩
          rw [hY] at hB hF HBR HFR hbl
          have HBD := Lib.hid hB
          clear hB hBR hFR hY
          go_wp2_with fail
          refine HBD.out.mono ?_
          rintro e w3 ⟨bv, rfl, hbv, g3⟩
          have HV := Lib.hid (IsB.of_own hbv HBR.out)
          have G3 := Lib.hid (bel_call w1b.out g3)
          obtain ⟨bo, bcap, rfl, -, -, -, -⟩ := own_form hbv
          clear hbv g3
          by_cases hb1 : 1048576 < Y.length
          · have q5 : decide ((1048576 : Int) < (Y.length : Int)) = true := decide_eq_true (by omega)
            rw [if_pos hb1] at hF
            have HF := Lib.hid hF
            clear hF
            go_wp2_with fail
            go_ret2
            exact enc_bad HF.out G3.out
          · have q5 : decide ((1048576 : Int) < (Y.length : Int)) = false := decide_eq_false (by omega)
            rw [if_neg hb1] at hF
            have HF := Lib.hid hF
            clear hF
            go_wp2_with fail
            refine (rFrame_ok 66 (by decide) _ Y w3 HV.out (by omega)).mono ?_
            unfold FramePost
            rintro e w9 ⟨fv, rfl, hfv, g9⟩
            have HV9 := Lib.hid (OwnS.of_own hfv HFR.out)
            have G9 := Lib.hid (bel_call G3.out g9)
            have z9 := G3.out.size
            clear hfv g9
            go_wp2_with fail
            go_ret2
            exact ⟨_, ret_enc HF.out, by rw [HF.out]; exact HV9.out.mono z9, G9.out⟩
end Wal
end Go.Proofs.Ytlfelpbcnpjneaa
