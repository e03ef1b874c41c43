/- sstable: SstableSpoilt (the law, walked). -/
import Derived.Test.YtmojbamloanleaaSs35
import Derived.Test.YtmojbamloanleaaSs37
set_option linter.unusedVariables false
set_option linter.unusedSimpArgs false
namespace Go.Proofs.Ytmojbamloanleaa
open Go.RowKit
namespace Ss
open Mt Codec
set_option maxRecDepth 100000 in
set_option maxHeartbeats 8000000 in
theorem spoilt_any (lv : Value) (l : List En) (at_ by_ : Int) (w : World) (h : IsEs w lv l) (ha : -9223372036854775808 ≤ at_ ∧ at_ ≤ 9223372036854775807) (hb : 0 ≤ by_ ∧ by_ ≤ 255) : Calls Try.prog 4 #[lv, .int .i64 at_, .int .u8 by_] w (Ret (.bool true) w) := by
  obtain ⟨lo, lc, rfl, -, -, -⟩ := h.form
  have HL := Lib.hid h
  have HB := Lib.hid hb
  clear h
  go_enter Try.func4, Try.ntmps4
  go_wp2_with fail
  refine (exShown_any w).mono ?_
  rintro e w1 ⟨rfl, b1⟩
  have B1 := Lib.hid b1
  clear b1
  go_wp2_with fail
  refine (build_any _ l 64 10 w1 (IsL.below enR_stays HL.out B1.out) (by unfold I64; decide) (by unfold I64; decide)).mono ?_
  unfold BuildP
  rintro e w2 ⟨v2, rfl, o2, b2⟩
  have O2 := Lib.hid (o2.mono B1.out.size)
  have B2 := Lib.hid (bel_call B1.out b2)
  obtain ⟨po, pc, rfl, hpc, -, -, -⟩ := o2.form
  clear o2 b2
  by_cases hc : codeF l 64 10 = 0
  · have HC := Lib.hid hc
    rw [hc]
    by_cases hneg : at_ < 0 ∨ by_ = 0
    · have q : (decide (at_ < 0) || by_ == 0) = true := by
        rcases hneg with h1 | h1 <;> simp [h1]
      by_cases h1 : at_ < 0
      · clear q hneg hc
        go_wp2_with fail
        go_ret
        exact ⟨rfl, B2.out⟩
      · have h2 : by_ = 0 := hneg.resolve_left h1
        subst h2
        clear q hneg hc
        go_wp2_with fail
        go_ret
        exact ⟨rfl, B2.out⟩
    · have h1 : 0 ≤ at_ := by omega
      have h2 : by_ ≠ 0 := fun h => hneg (.inr h)
      have H2 := Lib.hid h2
      clear hneg
      have q : (by_ == 0) = false := beq_eq_false_iff_ne.2 h2
      have hR := O2.out.rng
      have hlen : 0 < (tabF l 64 10).length := by
        have h9 := (tab_shape hc).eq
        have h8 := (tab_shape hc).ht
        have h7 := congrArg List.length h9
        rw [List.length_append, List.length_append, List.length_append] at h7
        omega
      have hmx := (code_facts hc).2.2.2.2
      rw [← tab_eq hc] at hmx
      obtain ⟨A, rfl⟩ := Int.eq_ofNat_of_zero_le h1
      obtain ⟨k, hk⟩ : ∃ k, A % (tabF l 64 10).length = k := ⟨_, rfl⟩
      have hkl : k < (tabF l 64 10).length := by rw [← hk]; exact Nat.mod_lt _ hlen
      have hkI : (A : Int) % ((tabF l 64 10).length : Int) = (k : Int) := by rw [← hk]; push_cast; rfl
      obtain ⟨g, c, rfl, hg1, hg2, hx, hcl, hcf⟩ := O2.out.at_ hkl
      have hcr := hR c (List.mem_of_getElem? hx.out)
      have HOC : Hid (openF ((tabF l 64 10).take k) = none) := Lib.hid (spoilt_cut hc hkl)
      have HOS : Hid (openF ((tabF l 64 10).set k (bits .xor .u8 c by_)) = none) := Lib.hid (spoilt_set hc hR (turn_rng _ _) hx.out (turn_ne hcr HB.out h2))
      generalize tabF l 64 10 = T at O2 HOC HOS hpc hkl hkI hlen hx hR hmx ⊢
      have p0 : ((T.length : Int) == 0) = false := beq_eq_false_iff_ne.2 (by omega)
      have p1 := IntWalk.i64_in (k : Int) (by omega)
      have p2 : (0 : Int) ≤ (k : Int) := by omega
      have p3 : (k : Int) < T.length := by omega
      have p4 : (k : Int) ≤ pc := by omega
      have p5 : ¬ (T.length : Int) = 0 := by omega
      have HO1 := Lib.hid (open_any _ (T.take k) w2 (Codec.IsB.front O2.out.isB k (by omega)))
      clear hk h2 hc hx hR
      go_wp2_with fail
      refine HO1.out.mono ?_
      unfold OpenP
      rw [HOC.out]
      rintro e w3 ⟨rfl, b3⟩
      have B3 := Lib.hid (bel_call B2.out b3)
      have O3 := Lib.hid (O2.out.below b3)
      have hcl3 := (b3.cell (p := ⟨g, k, none⟩) hg2).trans hcl
      have hcf3 := (b3.frozen (p := ⟨g, k, none⟩) hg2).trans hcf
      clear b3 hcl hcf HO1
      go_wp2_with fail
      have HST := Lib.hid (OwnS.stored O3.out (k := k) (x := bits .xor .u8 c by_) (by omega) (turn_rng _ _))
      have G3 := Lib.hid (B3.out.setCell (p := ⟨g, k, none⟩) hg1 (.int .u8 (bits .xor .u8 c by_)))
      clear hcl3 hcf3
      refine (open_any _ (T.set k (bits .xor .u8 c by_)) _ HST.out.isB).mono ?_
      unfold OpenP
      rw [HOS.out]
      rintro e w4 ⟨rfl, b4⟩
      have B4 := Lib.hid (bel_call G3.out b4)
      clear b4
      go_wp2_with fail
      go_ret
      exact ⟨rfl, B4.out⟩
  · have q : (codeF l 64 10 == 0) = false := beq_eq_false_iff_ne.2 hc
    have q2 : (codeF l 64 10 != 0) = true := by simpa using hc
    generalize codeF l 64 10 = cd at q q2 hc ⊢
    generalize (tabF l 64 10).length = TL at O2 ⊢
    go_wp2_with fail
    go_ret
    exact ⟨rfl, B2.out⟩
end Ss
end Go.Proofs.Ytmojbamloanleaa
