/- bloom: the document's Make. -/
import Derived.Test.YtmojbamloanleaaBloomMake
set_option linter.unusedVariables false
set_option linter.unusedSimpArgs false
namespace Go.Proofs.Ytmojbamloanleaa
open Go.RowKit
namespace Bloom
set_option maxHeartbeats 400000 in
theorem rMake_bad (v : Value) (ls : List (List Int)) (q : Int) (w : World) (h : IsBB w v ls) (hq : -9223372036854775808 ≤ q ∧ q ≤ 9223372036854775807) (hb : ¬ okArgs ls q) :
    Calls Try.prog 44 #[v, .int .i64 q] w fun e w' => e = .returned (.tuple #[.slice none 0 0, .int .i64 1]) ∧ w = w' := by
  have hm := h.max
  obtain ⟨ao, cap, rfl, hnc⟩ := h.form
  unfold okArgs at hb
  by_cases h1 : q < 1
  · go_enter Try.func44, Try.ntmps44
    go_wp2_with fail
    go_ret2
    exact ⟨rfl, rfl⟩
  · by_cases h2 : 30 < q
    · have hd1 : decide (q < 1) = false := by simp; omega
      have hd2 : decide (30 < q) = true := by simp; omega
      clear h1 h2 hb h
      go_enter Try.func44, Try.ntmps44
      go_wp2_with fail
      go_ret2
      exact ⟨rfl, rfl⟩
    · have hd1 : decide (q < 1) = false := by simp; omega
      have hd2 : decide (30 < q) = false := by simp; omega
      have hd3 : 65536 < ls.length := by omega
      clear h1 h2 hb h
      go_enter Try.func44, Try.ntmps44
      go_wp2_with fail
      go_ret2
      exact ⟨rfl, rfl⟩
/-- a key's first k numbers' bits, one after the other, by number -/
theorem setBit_nat {S : List Int} {X : Nat} {z : Int} (h : S[1 + X / 8]? = some z) : setBit S (X : Int) = S.set (1 + X / 8) (bits .or .u8 z (2 ^ (X % 8) % 256)) := by
  unfold setBit atF bitF
  rw [show ((X : Int) / 8).toNat = X / 8 from by omega, show ((X : Int) % 8).toNat = X % 8 from by omega]
  simp [List.getD, h]
theorem setAll_succ (f l : List Int) (m : Int) (k : Nat) : setAll f l m (k + 1) = setBit (setAll f l m k) (num l m k) := rfl
set_option maxRecDepth 100000 in
set_option maxHeartbeats 2000000 in
theorem rMake_ok (v : Value) (ls : List (List Int)) (q : Int) (w : World) (h : IsBB w v ls) (hb : okArgs ls q) :
    Calls Try.prog 44 #[v, .int .i64 q] w (MakePost ls q w) := by
  have hm := h.max
  obtain ⟨ao, cap, rfl, hnc⟩ := h.form
  obtain ⟨⟨q1, q2⟩, hl⟩ := hb
  have HB := Lib.hid h
  clear h
  have hd1 : decide (q < 1) = false := by simp; omega
  have hd2 : decide (30 < q) = false := by simp; omega
  have hd3 : decide (65536 < ls.length) = false := by simp; omega
  have hprod : 0 ≤ (ls.length : Int) * q ∧ (ls.length : Int) * q ≤ 1966080 := by
    constructor
    · exact Int.mul_nonneg (by omega) (by omega)
    · have : (ls.length : Int) * q ≤ 65536 * 30 := Int.mul_le_mul (by omega) (by omega) (by omega) (by omega)
      omega
  obtain ⟨p, hp⟩ : ∃ p : Nat, probesF q = p := ⟨(probesF q).toNat, by unfold probesF; omega⟩
  obtain ⟨W, hW⟩ : ∃ W : Nat, wordsF ls.length q = W := ⟨(wordsF ls.length q).toNat, by unfold wordsF; omega⟩
  have hpb : 1 ≤ p ∧ p ≤ 20 := by unfold probesF at hp; omega
  have hWb : 1 ≤ W ∧ W ≤ 30721 := by unfold wordsF at hW; omega
  have HP := Lib.hid hp
  have HW := Lib.hid hW
  clear hp hW
  go_enter Try.func44, Try.ntmps44
  go_upto_region 3 with fail
  go_cut [6] (fun s6 wx => s6 = .int .i64 (W : Int) ∧ w = wx)
  case first =>
    go_wp2_with fail
    all_goals
      go_meet
      refine ⟨?_, rfl⟩
      have hW := HW.out
      unfold wordsF at hW
      congr 1; omega
  case rest =>
    obtain ⟨rfl, rfl⟩ := hcut
    go_upto_region 4 with fail
    go_cut [7] (fun s7 wx => s7 = .int .i64 (p : Int) ∧ w = wx)
    case first =>
      go_wp2_with fail
      all_goals
        go_meet
        refine ⟨?_, rfl⟩
        have hp := HP.out
        unfold probesF at hp
        congr 1; omega
    case rest =>
      obtain ⟨rfl, rfl⟩ := hcut
      obtain ⟨i0, hi0, hz0, hz1, hz2⟩ := info_parts info8
      have HI := Lib.hid hi0; have HZ0 := Lib.hid hz0; have HZ1 := Lib.hid hz1; have HZ2 := Lib.hid hz2
      clear hi0 hz0 hz1 hz2
      go_wp2_with (at_make; refine wpList_make_bytes rfl (.tmp 38) (.tmp 38) _ rfl i0 Try.underlying25 HI.out HZ0.out HZ1.out HZ2.out _ _ (1 + 8 * W) rfl rfl (by push_cast; omega) (by push_cast; omega) (by omega) (Nat.le_refl _) ?_; intro w1 hown gg zz; have HO := Lib.hid hown; obtain ⟨_, x0, hx1, _, _, hx, c0, f0⟩ := own_at hown (k := 0) (by omega); cases hx1; clear hown; have H0 := hx; clear hx)
      go_loopw [9] (fun i wr => ∃ k : Nat, k ≤ ls.length ∧ i = .int .i64 k ∧
        Hid (wr.ownsRow w.heap.size 5 1 (.slice (some ⟨w.heap.size, 0, none⟩) (1 + 8 * W) (1 + 8 * W)) (1 + 8 * W) ((fill (ls.take k) ((W : Int) * 64) p ((List.replicate (1 + 8 * W) 0).set 0 (p : Int))).map (Value.int .u8))) ∧
        Hid (Below w.heap.size w wr)) (fun i _ => ls.length - (intOf i).toNat)
      case atStart =>
        refine ⟨0, Nat.zero_le _, rfl, ?_, Lib.hid (by repeat' (first | (with_reducible exact Below.refl _ _) | (with_reducible assumption) | (with_reducible refine Below.drew ?_) | (with_reducible refine below_drewN ?_ _) | (with_reducible refine bel_alloc ?_ _) | (with_reducible refine Below.setCell ?_ ?_ _) | (with_reducible refine bel_call ?_ (by assumption)) | (simp <;> omega)))⟩
        show World.ownsRow _ _ _ _ _ _ _
        have := (HO.out.stored 0 (.int .u8 p)).1
        rw [← List.map_set] at this
        exact this
      case round =>
        obtain ⟨k, hk, rfl, hown, hbel⟩ := hrel
        by_cases hlt : k < ls.length
        · obtain ⟨b, o, u, l, rfl, hb, hx, hc, hB⟩ := (HB.out.below hbel.out).at_ hlt
          obtain ⟨F, hF⟩ : ∃ F, fill (ls.take k) ((W : Int) * 64) p ((List.replicate (1 + 8 * W) 0).set 0 (p : Int)) = F := ⟨_, rfl⟩
          have HF := Lib.hid hF
          rw [hF] at hown
          clear hF
          obtain ⟨wo, rfl⟩ : ∃ wo : World, wo = wr := ⟨_, rfl⟩
          have zo := hbel.out.size
          have zf := (hown.out.lt _ rfl).2
          go_wp2_with fail
          refine (rBits_any u l p _ wo hB.out (by omega) (by omega)).mono ?_
          unfold BitsPost
          rintro e w2 ⟨lv, rfl, hown2, hb2⟩
          have hb2' := hb2.size
          rw [show (64 : Int) * (W : Int) = W * 64 from by omega] at hown2
          have HL := Lib.hid hown2
          have HF2 := Lib.hid (own_below hown.out hb2)
          have HB2 := Lib.hid (bel_call hbel.out hb2)
          clear hb2 hown2
          obtain ⟨lao, lcap, rfl, hln, hlc, _, _⟩ := own_form HL.out
          go_wp2_with fail
          go_loopw [11] (fun i wr => ∃ j : Nat, j ≤ p ∧ i = .int .i64 j ∧
            Hid (wr.ownsRow w.heap.size 5 1 (.slice (some ⟨w.heap.size, 0, none⟩) (1 + 8 * W) (1 + 8 * W)) (1 + 8 * W) ((setAll F l ((W : Int) * 64) j).map (Value.int .u8))) ∧
            Hid (wr.ownsRow wo.heap.size 44 1 (.slice lao p lcap) p ((nums l ((W : Int) * 64) p).map (Value.int .u64))) ∧
            Hid (Below w.heap.size w wr)) (fun i _ => p - (intOf i).toNat)
          case atStart => exact ⟨0, Nat.zero_le _, rfl, HF2.out, HL.out, HB2.out⟩
          case round =>
            obtain ⟨j, hj, rfl, hown3, hl3, hbel3⟩ := hrel
            by_cases hjl : j < p
            · obtain ⟨lb, x, rfl, hlb, hlb2, hxx, hcx, _⟩ := own_at hl3.out hjl
              have ex := nums_at hjl hxx.out
              subst ex
              have hnr := num_rng l (m := (W : Int) * 64) (by omega) j
              obtain ⟨X, hX⟩ : ∃ X : Nat, num l ((W : Int) * 64) j = X := ⟨_, (Int.toNat_of_nonneg hnr.1).symm⟩
              have HX := Lib.hid hX
              rw [hX] at hcx hnr
              have hX2 : X < W * 64 := by omega
              clear hX hnr hxx
              obtain ⟨_, y, hy1, _, _, hyx, hcy, hfy⟩ := own_at hown3.out (k := 1 + X / 8) (by omega)
              cases hy1
              have hyx2 := hyx.out
              rw [List.getElem?_map, Option.map_eq_some_iff] at hyx2
              obtain ⟨z, hz, rfl⟩ := hyx2
              have HZ := Lib.hid hz
              clear hyx hz
              go_wp2_with fail
              go_roundw
              case rel =>
                have st := (hown3.out.stored (1 + X / 8) (.int .u8 (bits .or .u8 z (2 ^ (X % 8) % 256)))).1
                refine ⟨j + 1, by omega, by go_num, ?_, ?_, ?_⟩
                · show World.ownsRow _ _ _ _ _ _ _
                  rw [setAll_succ, HX.out, setBit_nat HZ.out, List.map_set]
                  exact st
                · exact own_set_other hl3.out (by simp [Value.ownBlock]; omega) _
                · exact Lib.hid (own_below_set hbel3.out (Nat.le_refl _) _)
              case measure => simp [intOf]; omega
            · have hjp : j = p := by omega
              subst hjp
              go_wp2_with fail
              go_roundw
              case rel => exact ⟨k + 1, by omega, by go_num, by rw [fill_snoc hx.out, HF.out]; exact hown3.out, hbel3.out⟩
              case measure => simp [intOf]; omega
        · have hkp : k = ls.length := by omega
          subst hkp
          go_wp2_with fail
          go_ret2
          have e : makeF ls q = fill (ls.take ls.length) ((W : Int) * 64) p ((List.replicate (1 + 8 * W) 0).set 0 (p : Int)) := by
            unfold makeF
            rw [HP.out, HW.out, List.take_length]
            rfl
          refine ⟨_, rfl, ?_, hbel.out⟩
          rw [e, fill_len]
          have hl : ((List.replicate (1 + 8 * W) (0 : Int)).set 0 (p : Int)).length = 1 + 8 * W := by simp
          rw [hl]
          exact hown.out
end Bloom
end Go.Proofs.Ytmojbamloanleaa
