/- wal: the document's Encode. -/
import Derived.Test.YtlfelpbcnpjneaaWalEnc
namespace Go.Proofs.Ytlfelpbcnpjneaa
open Go.RowKit
namespace Wal
open Codec
def mayB (l : List Opr) : Bool := decide (1 ≤ l.length) && decide (l.length ≤ 256) && l.all fitsB
theorem fits_false {d : Bool} {kl vl : List Int} (h : fitsB (d, kl, vl) = false) : kl.length < 1 ∨ 1 ≤ kl.length ∧ 256 < kl.length ∨ 1 ≤ kl.length ∧ kl.length ≤ 256 ∧ 65536 < vl.length ∨ 1 ≤ kl.length ∧ kl.length ≤ 256 ∧ vl.length ≤ 65536 ∧ d = true ∧ 0 < vl.length := by
  unfold fitsB at h
  simp only [Bool.and_eq_false_iff, decide_eq_false_iff_not, Bool.not_eq_false', Bool.and_eq_true, decide_eq_true_eq] at h
  rcases h with ((⟨h1, h2⟩ | h) | h) | h
  · by_cases c1 : kl.length < 1
    · exact .inl c1
    · by_cases c2 : 256 < kl.length
      · exact .inr (.inl ⟨by omega, c2⟩)
      · by_cases c3 : 65536 < vl.length
        · exact .inr (.inr (.inl ⟨by omega, by omega, c3⟩))
        · exact .inr (.inr (.inr ⟨by omega, by omega, by omega, h1, h2⟩))
  · exact .inl (by omega)
  · by_cases c1 : kl.length < 1
    · exact .inl c1
    · exact .inr (.inl ⟨by omega, by omega⟩)
  · by_cases c1 : kl.length < 1
    · exact .inl c1
    · by_cases c2 : 256 < kl.length
      · exact .inr (.inl ⟨by omega, c2⟩)
      · exact .inr (.inr (.inl ⟨by omega, by omega, by omega⟩))
theorem fits_true {d : Bool} {kl vl : List Int} (h : fitsB (d, kl, vl) = true) : 1 ≤ kl.length ∧ kl.length ≤ 256 ∧ vl.length ≤ 65536 ∧ (d = true → vl.length = 0) := by
  unfold fitsB at h
  simp only [Bool.and_eq_true, Bool.not_eq_true', Bool.and_eq_false_iff, decide_eq_true_eq, decide_eq_false_iff_not] at h
  obtain ⟨⟨⟨h1, h2⟩, h3⟩, h4⟩ := h
  refine ⟨h2, h3, h4, fun hd => ?_⟩
  rcases h1 with h1 | h1
  · rw [hd] at h1; cases h1
  · omega
set_option maxRecDepth 100000 in
set_option maxHeartbeats 2000000 in
theorem opsMay_any (ov : Value) (l : List Opr) (w : World) (h : IsOps w ov l) : Calls Try.prog 15 #[ov] w fun e w' => e = .returned (.bool (mayB l)) ∧ w = w' := by
  have hm := h.max
  obtain ⟨ao, cap, rfl, hnc, hcap, -⟩ := h.form
  have HB := Lib.hid h
  have hF : mayB l = (decide (1 ≤ l.length) && decide (l.length ≤ 256) && l.all fitsB) := rfl
  by_cases h1 : l.length < 1
  · have hf : mayB l = false := by rw [hF, decide_eq_false (by omega)]; rfl
    have q : decide ((l.length : Int) < 1) = true := decide_eq_true (by omega)
    have h00 : l.length = 0 := by omega
    rw [hf]
    clear hF hf h
    go_enter Try.func15, Try.ntmps15
    go_wp2_with fail
    go_ret
    exact ⟨rfl, rfl⟩
  · have q1 : decide ((l.length : Int) < 1) = false := decide_eq_false (by omega)
    by_cases h2 : 256 < l.length
    · have hf : mayB l = false := by rw [hF, decide_eq_false (show ¬ l.length ≤ 256 by omega)]; simp
      have q2 : decide (256 < (l.length : Int)) = true := decide_eq_true (by omega)
      rw [hf]
      clear hF hf h
      go_enter Try.func15, Try.ntmps15
      go_wp2_with fail
      go_ret
      exact ⟨rfl, rfl⟩
    · have q2 : decide (256 < (l.length : Int)) = false := decide_eq_false (by omega)
      have hf : mayB l = l.all fitsB := by rw [hF, decide_eq_true (show 1 ≤ l.length by omega), decide_eq_true (show l.length ≤ 256 by omega)]; rfl
      rw [hf]
      obtain ⟨r, hr⟩ : ∃ r, l.all fitsB = r := ⟨_, rfl⟩
      rw [hr]
      have HR := Lib.hid hr
      clear hr
      have l1 : 1 ≤ l.length := by omega
      have l2 : l.length ≤ 256 := by omega
      clear hF hf h h1 h2
      go_enter Try.func15, Try.ntmps15
      go_wp2_with fail
      go_loop [3] (fun i => ∃ (k : Nat), k ≤ l.length ∧ i = .int .i64 k ∧ Hid (∀ x ∈ l.take k, fitsB x = true)) (fun i => l.length - (intOf i).toNat)
      case atStart => exact ⟨0, by omega, rfl, fun x hx => by simp at hx⟩
      case round =>
        obtain ⟨k, hk, rfl, hfit⟩ := hrel
        by_cases hlt : k < l.length
        · obtain ⟨b, o, x, kv, vv, hao, hbb, hx, c0, c1, c2, hkv, hvv⟩ := IsOps.at3 HB.out hlt
          subst hao
          have hm1 := hkv.out.max
          have hm2 := hvv.out.max
          obtain ⟨ko, kcap, rfl, -, -, -⟩ := hkv.out.form
          obtain ⟨vo, vcap, rfl, -, -, -⟩ := hvv.out.form
          obtain ⟨d, kl, vl⟩ := x
          simp only at c0 c1 c2 hkv hvv hm1 hm2
          by_cases hf : fitsB (d, kl, vl) = true
          · obtain ⟨f1, f2, f3, f4⟩ := fits_true hf
            have e1 : decide ((kl.length : Int) < 1) = false := decide_eq_false (by omega)
            have e2 : decide (256 < (kl.length : Int)) = false := decide_eq_false (by omega)
            have e3 : decide (65536 < (vl.length : Int)) = false := decide_eq_false (by omega)
            have HFT : Hid (∀ y ∈ l.take (k + 1), fitsB y = true) := Lib.hid (by
              rw [take_snoc hx.out]
              intro y hy
              rcases List.mem_append.1 hy with h | h
              · exact hfit.out y h
              · rw [List.mem_singleton.1 h]; exact hf)
            clear hf
            cases d
            · clear f4
              go_wp2_with fail
              go_round
              case rel => exact ⟨k + 1, by omega, by go_num, HFT.out⟩
              case measure => simp [intOf]; omega
            · have h6 : vl.length = 0 := f4 rfl
              clear f4 f3 e3
              go_wp2_with fail
              go_round
              case rel => exact ⟨k + 1, by omega, by go_num, HFT.out⟩
              case measure => simp [intOf]; omega
          · have hf' : fitsB (d, kl, vl) = false := by simpa using hf
            have hall : l.all fitsB = false := by
              rw [List.all_eq_false]
              exact ⟨_, List.mem_of_getElem? hx.out, by rw [hf']; decide⟩
            have hr0 : r = false := HR.out.symm.trans hall
            subst hr0
            have hc := fits_false hf'
            clear hall hf hf'
            rcases hc with f1 | ⟨f1, f2⟩ | ⟨f1, f2, f3⟩ | ⟨f1, f2, f3, rfl, f4⟩
            · have e1 : decide ((kl.length : Int) < 1) = true := decide_eq_true (by omega)
              have f0 : kl.length = 0 := by omega
              clear f1
              go_wp2_with fail
              go_ret
              exact ⟨rfl, rfl⟩
            · have e1 : decide ((kl.length : Int) < 1) = false := decide_eq_false (by omega)
              have e2 : decide (256 < (kl.length : Int)) = true := decide_eq_true (by omega)
              go_wp2_with fail
              go_ret
              exact ⟨rfl, rfl⟩
            · have e1 : decide ((kl.length : Int) < 1) = false := decide_eq_false (by omega)
              have e2 : decide (256 < (kl.length : Int)) = false := decide_eq_false (by omega)
              have e3 : decide (65536 < (vl.length : Int)) = true := decide_eq_true (by omega)
              go_wp2_with fail
              go_ret
              exact ⟨rfl, rfl⟩
            · have e1 : decide ((kl.length : Int) < 1) = false := decide_eq_false (by omega)
              have e2 : decide (256 < (kl.length : Int)) = false := decide_eq_false (by omega)
              have e3 : decide (65536 < (vl.length : Int)) = false := decide_eq_false (by omega)
              have e4 : decide (0 < (vl.length : Int)) = true := decide_eq_true (by omega)
              go_wp2_with fail
              go_ret
              exact ⟨rfl, rfl⟩
        · have hkl : k = l.length := by omega
          subst hkl
          have hall : l.all fitsB = true := by
            rw [List.all_eq_true]
            intro y hy
            exact hfit.out y (by rw [List.take_length]; exact hy)
          have hr0 : r = true := HR.out.symm.trans hall
          subst hr0
          clear hall
          go_wp2_with fail
          go_ret
          exact ⟨rfl, rfl⟩
end Wal
end Go.Proofs.Ytlfelpbcnpjneaa
