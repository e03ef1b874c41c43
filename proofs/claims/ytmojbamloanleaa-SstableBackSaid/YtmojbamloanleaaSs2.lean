/- sstable: the reference's common, laid (walks). -/
import Derived.Test.YtmojbamloanleaaSsP
import Derived.Test.YtmojbamloanleaaSsM3
import Derived.Test.YtmojbamloanleaaCodecRT
set_option linter.unusedVariables false
set_option linter.unusedSimpArgs false
namespace Go.Proofs.Ytmojbamloanleaa
open Go.RowKit
namespace Ss
open Mt Codec
/-- what stands behind the first n bytes -/
theorem isB_suf {w : World} {ao ao' : Option Addr} {m cap cap' n k : Nat} {l : List Int} (h : IsB w (.slice ao m cap) l) (hn : n ≤ l.length) (hk : k = l.length - n) (hc : cap' = cap - n) (he : (cap = n ∧ ao' = ao) ∨ ao' = ao.map (·.add n)) : IsB w (.slice ao' k cap') (l.drop n) := by
  obtain ⟨h0, ao1, cap1, h1, h2, h3, h4, h5⟩ := h
  cases h1
  subst hk hc
  have hl : (l.drop n).length = l.length - n := List.length_drop
  refine ⟨h0.drop n, ao', cap - n, by rw [hl], by rw [hl]; omega, by omega, fun hn' => ?_, fun a ha hlt => ?_⟩
  · have : ao = none := by
      rcases he with ⟨-, rfl⟩ | rfl
      · exact hn'
      · simpa using hn'
    obtain ⟨q1, q2⟩ := h4 this
    rw [q1]
    exact ⟨by simp, by omega⟩
  · rw [hl] at hlt
    rcases he with ⟨e1, rfl⟩ | rfl
    · omega
    · cases ao with
      | none => cases ha
      | some b =>
        rw [Option.map_some] at ha
        obtain ⟨k1, k2, k3⟩ := h5 b rfl (by omega)
        obtain ⟨bb, bo, bs⟩ := b
        simp only at k1 k2 k3
        subst k1
        rw [plain_add'] at ha
        cases ha
        refine ⟨rfl, k2, fun i hi => ?_⟩
        rw [hl] at hi
        have := k3 (n + i) (by omega)
        rw [Nat.add_assoc, this]
        simp [List.getD_eq_getElem?_getD, List.getElem?_drop]
set_option maxRecDepth 100000 in
set_option maxHeartbeats 4000000 in
theorem common_any (v u : Value) (l m : List Int) (w : World) (h : IsB w v l) (k : IsB w u m) : Calls Try.prog 84 #[v, u] w (Ret (.int .i64 (comL l m)) w) := by
  obtain ⟨ao, cap, rfl, -, -, -⟩ := h.form
  obtain ⟨bo, bap, rfl, -, -, -⟩ := k.form
  have hlm := h.max
  have hmm := k.max
  have HL := Lib.hid h
  have HM := Lib.hid k
  have HC := Lib.hid (comL_le l m)
  clear h k
  go_enter Try.func84, Try.ntmps84
  go_wp2_with fail
  go_loopw [5] (fun i wr => ∃ n : Nat, n ≤ comL l m ∧ i = .int .i64 n ∧ Hid (Below w.heap.size w wr)) (fun i _ => l.length - (intOf i).toNat)
  case atStart => exact ⟨0, Nat.zero_le _, rfl, Below.refl _ _⟩
  case round =>
    obtain ⟨n, hn, rfl, hb⟩ := hrel
    obtain ⟨c1, c2⟩ := HC.out
    have HB := Lib.hid hb.out
    by_cases hlt : n < comL l m
    · obtain ⟨x, hx, hy⟩ := comL_at l m n hlt
      obtain ⟨b1, o1, y1, hao, hb1, hy1, hc1, r1, r2⟩ := (HL.out.below HB.out).at_ (k := n) (by omega)
      obtain ⟨b2, o2, y2, hbo, hb2, hy2, hc2, r3, r4⟩ := (HM.out.below HB.out).at_ (k := n) (by omega)
      subst hao hbo
      have e1 : y1 = x := by have := hy1.out; rw [hx] at this; exact (Option.some.inj this).symm
      have e2 : y2 = x := by have := hy2.out; rw [hy] at this; exact (Option.some.inj this).symm
      subst e1 e2
      have q1 : (n : Int) < l.length := by omega
      have q2 : (n : Int) < m.length := by omega
      have q3 : (y2 == y2) = true := by simp
      have p9 := IntWalk.i64_in ((n : Int) + 1) (by omega)
      clear hx hy hy1 hy2 hb
      go_wp2_with fail
      go_quiet (fail)
      go_wp2_with fail
      refine ⟨⟨n + 1, by omega, by go_num, below_drewN HB.out _⟩, ?_⟩
      simp [intOf]
      omega
    · have hne : n = comL l m := by omega
      subst hne
      clear hlt hn hb
      by_cases k1 : comL l m < l.length
      · have q1 : ((comL l m : Nat) : Int) < l.length := by omega
        by_cases k2 : comL l m < m.length
        · have q2 : ((comL l m : Nat) : Int) < m.length := by omega
          obtain ⟨x, y, hx, hy, hxy⟩ := comL_stop l m k1 k2
          obtain ⟨b1, o1, y1, hao, hb1, hy1, hc1, r1, r2⟩ := (HL.out.below HB.out).at_ (k := comL l m) k1
          obtain ⟨b2, o2, y2, hbo, hb2, hy2, hc2, r3, r4⟩ := (HM.out.below HB.out).at_ (k := comL l m) k2
          subst hao hbo
          have e1 : y1 = x := by have := hy1.out; rw [hx] at this; exact (Option.some.inj this).symm
          have e2 : y2 = y := by have := hy2.out; rw [hy] at this; exact (Option.some.inj this).symm
          subst e1 e2
          have q3 : (y1 == y2) = false := by simp [hxy]
          clear hx hy hy1 hy2
          go_wp2_with fail
          go_quiet (fail)
          go_wp2_with fail
          go_ret
          exact ⟨rfl, below_drewN HB.out _⟩
        · have q2' : ¬ ((comL l m : Nat) : Int) < m.length := by omega
          have q2 : decide (comL l m < m.length) = false := decide_eq_false k2
          clear q2'
          clear k2
          go_wp2_with fail
          go_quiet (fail)
          go_wp2_with fail
          go_ret
          exact ⟨rfl, below_drewN HB.out _⟩
      · have q1' : ¬ ((comL l m : Nat) : Int) < l.length := by omega
        have q1 : decide (comL l m < l.length) = false := decide_eq_false k1
        clear q1'
        clear k1
        go_wp2_with fail
        go_quiet (fail)
        go_wp2_with fail
        go_ret
        exact ⟨rfl, below_drewN HB.out _⟩
end Ss
end Go.Proofs.Ytmojbamloanleaa
