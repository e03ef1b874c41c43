/- The walk of BloomHolds. -/
import Derived.Test.YtjhnjnpidaofaaaBloomHold
namespace Go.Proofs.Ytjhnjnpidaofaaa
open Go.RowKit
namespace Bloom
set_option maxRecDepth 100000 in
set_option maxHeartbeats 1000000 in
theorem holds_bad (v u : Value) (ls : List (List Int)) (q : Int) (w : World) (h : IsBB w v ls) (hq : -9223372036854775808 ≤ q ∧ q ≤ 9223372036854775807) (hb : ¬ okArgs ls q) :
    Calls Try.prog 6 #[v, .int .i64 q, u] w (Ret (.bool true) w) := by
  have HB := Lib.hid h
  have HQ := Lib.hid hq
  clear h hq
  go_enter Try.func6, Try.ntmps6
  go_wp2_with fail
  refine (shown_any _).mono ?_
  rintro e w1 ⟨rfl, g1⟩
  have G1 := Lib.hid g1; have z1 := g1.size
  clear g1
  go_wp2_with fail
  refine (make_bad v ls q w1 (HB.out.below G1.out) HQ.out hb).mono ?_
  rintro e w2 ⟨rfl, rfl⟩
  go_wp2_with fail
  go_ret
  exact ⟨rfl, G1.out⟩
set_option maxRecDepth 100000 in
set_option maxHeartbeats 4000000 in
theorem holds_ok (v u : Value) (ls : List (List Int)) (q : Int) (mo : List Int) (w : World) (h : IsBB w v ls) (hu : IsB w u mo) (hb : okArgs ls q) :
    Calls Try.prog 6 #[v, .int .i64 q, u] w (Ret (.bool true) w) := by
  obtain ⟨ao, cap, rfl, hnc⟩ := h.form
  obtain ⟨uo, ucap, rfl, huc, _, _⟩ := hu.form
  have hm := h.max
  have hm2 := hu.max
  have HB := Lib.hid h
  have HU := Lib.hid hu
  have OK := Lib.hid hb
  have hlen : (makeF ls q).length = 1 + 8 * (wordsF ls.length q).toNat := makeF_len
  have hLb : 9 ≤ (makeF ls q).length ∧ (makeF ls q).length ≤ 245769 := by
    rw [hlen]
    obtain ⟨⟨q1, q2⟩, hl⟩ := hb
    have hprod : (ls.length : Int) * q ≤ 65536 * 30 := Int.mul_le_mul (by omega) (by omega) (by omega) (by omega)
    unfold wordsF; omega
  obtain ⟨L, hL⟩ : ∃ L, (makeF ls q).length = L := ⟨_, rfl⟩
  have HL := Lib.hid hL
  rw [hL] at hLb
  have HRF := Lib.hid (makeF_rng hb)
  clear hL hlen h hu hb
  go_enter Try.func6, Try.ntmps6
  go_wp2_with fail
  refine (shown_any _).mono ?_
  rintro e w1 ⟨rfl, g1⟩
  have G1 := Lib.hid g1; have z1 := g1.size
  clear g1
  go_wp2_with fail
  refine (make_ok _ ls q w1 (HB.out.below G1.out) OK.out).mono ?_
  unfold MakePost
  rintro e w2 ⟨bv, rfl, ho, g2⟩
  have G2 := Lib.hid g2; have z2 := g2.size
  rw [HL.out] at ho
  have HO := Lib.hid ho
  obtain ⟨bao, bcap, rfl, hbn, hbc, _, _⟩ := own_form ho
  clear g2 ho
  go_wp2_with fail
  go_loopw [10] (fun i wr => ∃ k : Nat, k ≤ ls.length ∧ i = .int .i64 k ∧ Hid (Below w2.heap.size w2 wr)) (fun i _ => ls.length - (intOf i).toNat)
  case atStart => exact ⟨0, Nat.zero_le _, rfl, Lib.hid (Below.refl _ _)⟩
  case round =>
    obtain ⟨k, hk, rfl, hbel⟩ := hrel
    by_cases hlt : k < ls.length
    · obtain ⟨b, o, x, l, rfl, hb, hx, hc, hB⟩ := (HB.out.below (bel_call (bel_call G1.out G2.out) hbel.out)).at_ hlt
      have hml := holds_law OK.out (SubL.refl _) (List.mem_of_getElem? hx.out)
      have HM := Lib.hid hml
      clear hml
      go_wp2_with fail
      refine (may_any _ _ (makeF ls q) l wr (by have := IsB.of_own (own_below HO.out hbel.out) HRF.out; exact this) hB.out (by have := HL.out; omega)).mono ?_
      rw [HM.out]
      rintro e w3 ⟨rfl, g3⟩
      have G3 := Lib.hid (bel_call hbel.out g3)
      clear g3
      go_wp2_with fail
      go_roundw
      case rel => exact ⟨k + 1, by omega, by go_num, G3.out⟩
      case measure => simp [intOf]; omega
    · have hkp : k = ls.length := by omega
      subst hkp
      have zr := hbel.out.size
      have HO1 := Lib.hid (own_below HO.out hbel.out)
      have GG := Lib.hid (bel_call G2.out hbel.out)
      go_wp2_with fail
      go_loopw [12] (fun i wr => ∃ (j : Nat) (G : List Int), j ≤ mo.length ∧ i = .int .i64 j ∧ Hid (wr.ownsRow w1.heap.size 5 1 (.slice bao L bcap) L (G.map (Value.int .u8))) ∧ Hid (SubL (makeF ls q) G ∧ Rng G) ∧ Hid (Below w1.heap.size w1 wr)) (fun i _ => mo.length - (intOf i).toNat)
      case atStart => exact ⟨0, makeF ls q, Nat.zero_le _, rfl, HO1.out, Lib.hid ⟨SubL.refl _, HRF.out⟩, GG.out⟩
      case round =>
        obtain ⟨j, G, hj, rfl, hown, hsub, hbel2⟩ := hrel
        by_cases hgo : j < mo.length ∧ j + 1 < L
        · obtain ⟨hj1, hj2⟩ := hgo
          obtain ⟨g, x, rfl, hg1, hg2, hx, hc, hf⟩ := own_at hown.out hj2
          have hx2 := hx.out
          rw [List.getElem?_map, Option.map_eq_some_iff] at hx2
          obtain ⟨y, hy, rfl⟩ := hx2
          have HY := Lib.hid hy
          obtain ⟨ub, uo, z, rfl, hub, hz, hcz, hz1, hz2⟩ := (HU.out.below (bel_call G1.out hbel2.out)).at_ hj1
          have hd1 : decide (j < mo.length) = true := by simp; omega
          have hd2 : decide ((j : Int) + 1 < (L : Int)) = true := by simp; omega
          clear hx hy
          have hw1 := IntWalk.i64_in ((j : Int) + 1) (by omega)
          have hw2 : 0 ≤ (j : Int) + 1 := by omega
          have hw3 : ((j : Int) + 1).toNat = j + 1 := by omega
          have hw4 : (j : Int) + 1 < (L : Int) := by omega
          go_wp2_with fail
          refine wp_region_still_tail 14 (by kernel_rfl) (by kernel_rfl) ?_
          show wpStill _ _ (World.drew _) _ _ _
          simp only [List.take_succ_cons, List.take_zero, List.drop_succ_cons, List.drop_zero]
          still_step; still_step; still_step; still_step; still_step; still_step; still_step; still_step; still_step; still_step; still_step; still_step; still_step; still_step
          refine wpStill_nil ?_
          show wpList _ _ _ _ _ (World.drew _)
          go_wp2_with fail
          go_roundw
          case rel =>
            have st := (hown.out.stored (j + 1) (.int .u8 (bits .or .u8 y z))).1
            rw [← List.map_set] at st
            have hyD : G.getD (j + 1) 0 = y := by simp [List.getD, HY.out]
            refine ⟨j + 1, G.set (j + 1) (bits .or .u8 y z), by omega, by go_num, st, Lib.hid ⟨?_, ?_⟩, Lib.hid ((own_below_set (p := ⟨g, j + 1, none⟩) hbel2.out hg1 _).drew)⟩
            · rw [← hyD]
              exact hsub.out.1.trans (SubL.set z (by omega))
            · intro a ha
              rcases List.mem_or_eq_of_mem_set ha with h1 | h1
              · exact hsub.out.2 a h1
              · rw [h1]; exact bits_u8_rng _ _ _
          case measure => simp [intOf]; omega
        · by_cases hj1 : j < mo.length
          · have hd1 : decide (j < mo.length) = true := by simp; omega
            have hd2 : decide ((j : Int) + 1 < (L : Int)) = false := by simp; omega
            have hw5 : (L : Int) ≤ (j : Int) + 1 := by omega
            have hw1 := IntWalk.i64_in ((j : Int) + 1) (by omega)
            clear hgo
            have HG := hsub.out
            go_wp2_with fail
            go_loopw [13] (fun i wr' => ∃ k : Nat, k ≤ ls.length ∧ i = .int .i64 k ∧ Hid (Below wr.heap.size wr wr')) (fun i _ => ls.length - (intOf i).toNat)
            case atStart => exact ⟨0, Nat.zero_le _, rfl, Lib.hid (Below.refl _ _)⟩
            case round =>
              obtain ⟨k, hk, rfl, hbel⟩ := hrel
              by_cases hlt : k < ls.length
              · obtain ⟨b, o, x, l, rfl, hb, hx, hc, hB⟩ := (HB.out.below (bel_call (bel_call G1.out hbel2.out) hbel.out)).at_ hlt
                have hml := holds_law OK.out hsub.out.1 (List.mem_of_getElem? hx.out)
                have HM := Lib.hid hml
                have HGL := Lib.hid (hsub.out.1.1.trans HL.out)
                clear hml
                go_wp2_with fail
                refine (may_any _ _ G l _ (by have := IsB.of_own (own_below hown.out hbel.out) hsub.out.2; rw [← HGL.out] at this; rw [← HGL.out]; exact this) hB.out (by have := HGL.out; omega)).mono ?_
                rw [HM.out]
                rintro e w3 ⟨rfl, g3⟩
                have G3 := Lib.hid (bel_call hbel.out g3)
                clear g3
                go_wp2_with fail
                go_roundw
                case rel => exact ⟨k + 1, by omega, by go_num, G3.out⟩
                case measure => simp [intOf]; omega
              · have hkp : k = ls.length := by omega
                subst hkp
                go_wp2_with fail
                go_ret
                exact ⟨rfl, bel_call (bel_call G1.out hbel2.out) hbel.out⟩
          · have hd1 : decide (j < mo.length) = false := by simp; omega
            clear hgo hj1
            have HG := hsub.out
            go_wp2_with fail
            go_loopw [13] (fun i wr' => ∃ k : Nat, k ≤ ls.length ∧ i = .int .i64 k ∧ Hid (Below wr.heap.size wr wr')) (fun i _ => ls.length - (intOf i).toNat)
            case atStart => exact ⟨0, Nat.zero_le _, rfl, Lib.hid (Below.refl _ _)⟩
            case round =>
              obtain ⟨k, hk, rfl, hbel⟩ := hrel
              by_cases hlt : k < ls.length
              · obtain ⟨b, o, x, l, rfl, hb, hx, hc, hB⟩ := (HB.out.below (bel_call (bel_call G1.out hbel2.out) hbel.out)).at_ hlt
                have hml := holds_law OK.out hsub.out.1 (List.mem_of_getElem? hx.out)
                have HM := Lib.hid hml
                have HGL := Lib.hid (hsub.out.1.1.trans HL.out)
                clear hml
                go_wp2_with fail
                refine (may_any _ _ G l _ (by have := IsB.of_own (own_below hown.out hbel.out) hsub.out.2; rw [← HGL.out] at this; rw [← HGL.out]; exact this) hB.out (by have := HGL.out; omega)).mono ?_
                rw [HM.out]
                rintro e w3 ⟨rfl, g3⟩
                have G3 := Lib.hid (bel_call hbel.out g3)
                clear g3
                go_wp2_with fail
                go_roundw
                case rel => exact ⟨k + 1, by omega, by go_num, G3.out⟩
                case measure => simp [intOf]; omega
              · have hkp : k = ls.length := by omega
                subst hkp
                go_wp2_with fail
                go_ret
                exact ⟨rfl, bel_call (bel_call G1.out hbel2.out) hbel.out⟩
theorem holds_walk (v u : Value) (ls : List (List Int)) (q : Int) (mo : List Int) (w : World) (h : IsBB w v ls) (hu : IsB w u mo) (hq : -9223372036854775808 ≤ q ∧ q ≤ 9223372036854775807) :
    Calls Try.prog 6 #[v, .int .i64 q, u] w (Ret (.bool true) w) := by
  by_cases hb : okArgs ls q
  · exact holds_ok v u ls q mo w h hu hb
  · exact holds_bad v u ls q w h hq hb
end Bloom
end Go.Proofs.Ytjhnjnpidaofaaa
