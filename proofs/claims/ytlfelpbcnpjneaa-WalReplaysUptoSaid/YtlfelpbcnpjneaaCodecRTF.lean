/- codec: the document's TakeFrame. -/
import Derived.Test.YtlfelpbcnpjneaaCodecTF
namespace Go.Proofs.Ytlfelpbcnpjneaa
open Go.RowKit
namespace Codec
set_option maxRecDepth 100000 in
set_option maxHeartbeats 2000000 in
theorem rTakeFrame_any (v : Value) (l : List Int) (w : World) (h : IsB w v l) (hl : l.length ≤ 140737488355328) :
    Calls Try.prog 23 #[v] w (TFPost l w) := by
  obtain ⟨ao, cap, rfl, hnc, hcap, hform⟩ := h.form
  have HB := Lib.hid h
  obtain ⟨i0, hi0, hz0, hz1, hz2⟩ := info_parts infoU8
  have HI := Lib.hid hi0; have HZ0 := Lib.hid hz0; have HZ1 := Lib.hid hz1; have HZ2 := Lib.hid hz2
  clear hi0 hz0 hz1 hz2
  have hF : takeFrameF l = if l.length = 0 then (0, [], 0, 10)
    else if (lenF (l.drop 1) 4).2.2 ≠ 0 then (0, [], 0, (lenF (l.drop 1) 4).2.2)
    else if (l.drop ((lenF (l.drop 1) 4).2.1.toNat + 1)).take 4 ≠ le4 (sumsF (l.take ((lenF (l.drop 1) 4).2.1.toNat + 1)) ((l.drop ((lenF (l.drop 1) 4).2.1.toNat + 5)).take (lenF (l.drop 1) 4).1.toNat)) then (0, [], 0, 13)
    else (l.getD 0 0, (l.drop ((lenF (l.drop 1) 4).2.1.toNat + 5)).take (lenF (l.drop 1) 4).1.toNat, (lenF (l.drop 1) 4).2.1 + 5 + (lenF (l.drop 1) 4).1, 0) := rfl
  by_cases h0 : l.length = 0
  · rw [if_pos h0] at hF
    have HF := Lib.hid hF
    have q : ((l.length : Int) == 0) = true := by rw [beq_iff_eq]; omega
    clear hF h hform
    go_enter Try.func23, Try.ntmps23
    go_wp2_with fail
    ((try simp only [Exit.inBlock, Exit.then]); refine bodyPost_ret (results_tmp4 rfl _ _ _) rfl ?_)
    exact tf_bad HF.out
  · rw [if_neg h0] at hF
    obtain ⟨b, o, rfl, hb⟩ := hform.resolve_left (fun h => h0 (by rw [h]; rfl))
    clear hform
    have q : ((l.length : Int) == 0) = false := beq_eq_false_iff_ne.2 (by omega)
    by_cases hc1 : cap = 1
    · subst hc1
      have hl1 : l.length = 1 := by omega
      have e1 : l.drop 1 = [] := List.drop_eq_nil_of_le (by omega)
      rw [e1] at hF
      have e2 : lenF [] 4 = (0, 0, 10) := by decide
      have e3 : takeN [] = (0, 0, 10) := by decide
      rw [e2, if_pos (by decide)] at hF
      have HF := Lib.hid hF
      have hL := rTakeNumber_any _ [] w HB.out.cut0
      unfold RTPost at hL
      rw [e3] at hL
      have HL := Lib.hid hL
      clear hF h hL e1 e2 e3
      go_enter Try.func23, Try.ntmps23
      go_wp2_with fail
      refine HL.out.mono ?_
      rintro e w1 ⟨rfl, rfl⟩
      go_wp2_with fail
      ((try simp only [Exit.inBlock, Exit.then]); refine bodyPost_ret (results_tmp4 rfl _ _ _) rfl ?_)
      exact tf_bad HF.out
    · have hcut : IsB w (.slice (some ⟨b, o + 1, none⟩) (l.length - 1) (cap - 1)) (l.drop 1) := by
        have := HB.out.cut 1 (l.length - 1) (by omega)
        rwa [List.take_of_length_le (by rw [List.length_drop]; omega)] at this
      have hbd := takeN_bd hcut.rng
      have hL : lenF (l.drop 1) 4 = if (takeN (l.drop 1)).2.2 ≠ 0 then (0, 0, (takeN (l.drop 1)).2.2) else if 2097152 < (takeN (l.drop 1)).1 then (0, 0, 12) else if ((l.drop 1).length : Int) - (takeN (l.drop 1)).2.1 - 4 < (takeN (l.drop 1)).1 then (0, 0, 10) else ((takeN (l.drop 1)).1, (takeN (l.drop 1)).2.1, 0) := rfl
      have HT := Lib.hid (rTakeNumber_any _ (l.drop 1) w hcut)
      unfold RTPost at HT
      rw [List.length_drop] at hbd hL
      generalize takeN (l.drop 1) = t at HT hL hbd
      obtain ⟨n, at_, e⟩ := t
      simp only at HT hL hbd
      obtain ⟨⟨c1, b2⟩, ⟨c3, b4⟩, b5, b6⟩ := hbd
      obtain ⟨N, rfl⟩ := Int.eq_ofNat_of_zero_le c1
      obtain ⟨K, rfl⟩ := Int.eq_ofNat_of_zero_le c3
      have bad : ∀ x : Int, lenF (l.drop 1) 4 = (0, 0, x) → x ≠ 0 → takeFrameF l = (0, [], 0, x) := by
        intro x hx h0
        rw [hF, hx, if_pos h0]
      clear h hcut
      by_cases he : e = 0
      · subst he
        rw [if_neg (by simp)] at hL
        by_cases h1 : (2097152 : Int) < N
        · have HF := Lib.hid (bad 12 (by rw [hL, if_pos h1]) (by decide))
          clear hF hL bad
          go_enter Try.func23, Try.ntmps23
          go_wp2_with fail
          refine HT.out.mono ?_
          rintro e w1 ⟨rfl, rfl⟩
          go_wp2_with fail
          ((try simp only [Exit.inBlock, Exit.then]); refine bodyPost_ret (results_tmp4 rfl _ _ _) rfl ?_)
          exact tf_bad HF.out
        · rw [if_neg h1] at hL
          by_cases h2 : ((l.length - 1 : Nat) : Int) - K - 4 < N
          · have HF := Lib.hid (bad 10 (by rw [hL, if_pos h2]) (by decide))
            have q : decide ((l.length : Int) - (1 + (K : Int)) < 4 + (N : Int)) = true := by simp; omega
            clear hF hL bad
            go_enter Try.func23, Try.ntmps23
            go_wp2_with fail
            refine HT.out.mono ?_
            rintro e w1 ⟨rfl, rfl⟩
            go_wp2_with fail
            ((try simp only [Exit.inBlock, Exit.then]); refine bodyPost_ret (results_tmp4 rfl _ _ _) rfl ?_)
            exact tf_bad HF.out
          · rw [if_neg h2] at hL
            rw [hL, if_neg (by simp)] at hF
            simp only [Int.toNat_natCast] at hF
            have hKN : 1 + K + 4 + N ≤ l.length := by omega
            rw [show K + 1 = 1 + K from by omega, show K + 5 = 1 + K + 4 from by omega] at hF
            have hw1 := IntWalk.i64_in (1 + (K : Int)) (by omega)
            have hw2 := IntWalk.i64_in (1 + (K : Int) + 4) (by omega)
            have hw3 := IntWalk.i64_in (1 + (K : Int) + 4 + N) (by omega)
            have hS : IsB w (.slice (some ⟨b, o + (1 + K), none⟩) 4 (cap - (1 + K))) ((l.drop (1 + K)).take 4) := by
              have := HB.out.cut (1 + K) 4 (by omega)
              rwa [Option.map_some, plain_add'] at this
            have hD : IsB w (.slice (some ⟨b, o + (1 + K + 4), none⟩) N (cap - (1 + K + 4))) ((l.drop (1 + K + 4)).take N) := by
              have := HB.out.cut (1 + K + 4) N (by omega)
              rwa [Option.map_some, plain_add'] at this
            have hlen : ((l.drop (1 + K + 4)).take N).length = N := by rw [List.length_take, List.length_drop]; omega
            generalize (l.drop (1 + K + 4)).take N = D at hD hF hlen
            have HLEN := Lib.hid hlen
            have HA := Lib.hid (IsB.front HB.out (1 + K) (by omega))
            have HS := Lib.hid hS
            have HD := Lib.hid hD
            have HF := Lib.hid hF
            have q : decide ((l.length : Int) - (1 + (K : Int)) < 4 + (N : Int)) = false := by simp; omega
            have hKK : 1 + K + 4 ≤ cap ∧ 1 + (K : Int) ≤ 1 + (K : Int) + 4 ∧ 1 + (K : Int) + 4 ≤ 1 + (K : Int) + 4 + N ∧ 1 + K + 4 + N ≤ cap := by omega
            obtain ⟨hk1, hk2, hk3, hk4⟩ := hKK
            have hc00 := HB.out.at_ (k := 0) (by omega)
            obtain ⟨_, _, c0, hcc, -, hx0, hc0, -, -⟩ := hc00
            cases hcc
            simp only [Nat.add_zero] at hc0
            have hget : l.getD 0 0 = c0 := by rw [List.getD_eq_getElem?_getD, hx0.out]; rfl
            have HG := Lib.hid hget
            have HC0 := Lib.hid hc0
            clear hget hx0 hc0 hF hL bad hS hD hlen
            by_cases hc5 : cap = 1 + K + 4
            · have hN0 : N = 0 := by omega
              subst hN0
              have hD0 : D = [] := List.eq_nil_of_length_eq_zero HLEN.out
              subst hD0
              subst hc5
              have HD0 := Lib.hid HB.out.cut0
              rw [show 1 + K + 4 - (1 + K) = 4 from by omega] at HS
              clear HD
              go_enter Try.func23, Try.ntmps23
              go_wp2_with fail
              refine HT.out.mono ?_
              rintro e w1 ⟨rfl, rfl⟩
              go_wp2_with fail
              have n1 : 0 ≤ 1 + (K : Int) := by omega
              have n2 : 1 + (K : Int) ≤ ((1 + K + 4 : Nat) : Int) := by omega
              have n3 : (1 + (K : Int)).toNat = 1 + K := by omega
              have n4 : 0 ≤ 1 + (K : Int) + 4 := by omega
              have n5 : 1 + (K : Int) + 4 ≤ ((1 + K + 4 : Nat) : Int) := by omega
              have n6 : (1 + (K : Int) + 4).toNat = 1 + K + 4 := by omega
              go_region_held3 (fun _ => True) (trivial) ((go_at_call 29; refine (rsums_any _ _ (l.take (1 + K)) [] _ (show IsB w.drew _ _ from HA.out) (show IsB w.drew _ _ from HD0.out)).mono ?_; unfold SumsPost; rintro e w3 ⟨sv, rfl, hsv, g3⟩; have G3 := Lib.hid (((Below.refl _ w).drew).trans g3); have HS3 := Lib.hid (IsB.of_own hsv (le4_rng _)); obtain ⟨so, scap, rfl, -, -, -, -⟩ := own_form hsv; clear hsv g3))
              have k1 := fun nq => (show IsB (w3.drewN nq) _ _ from HS3.out).conv Try.underlying28 Try.underlying5 Try.underlying9
              have k2 := fun nq => (show IsB (w3.drewN nq) _ _ from (HS.out.below G3.out : IsB w3 _ _)).conv Try.underlying28 Try.underlying5 Try.underlying9
              have k3 := HS3.out.conv Try.underlying28 Try.underlying5 Try.underlying9
              have k4 := (HS.out.below G3.out : IsB w3 _ _).conv Try.underlying28 Try.underlying5 Try.underlying9
              have hse := str_beq HS3.out.rng HS.out.rng
              by_cases heq : (l.drop (1 + K)).take 4 = le4 (sumsF (l.take (1 + K)) [])
              · rw [decide_eq_true heq.symm] at hse
                have hF := HF.out
                rw [if_neg (fun h => h heq), HG.out] at hF
                have HF2 := Lib.hid hF
                have C3 := (G3.out.cell (p := ⟨b, o, none⟩) hb).trans HC0.out
                have hl0 : (0 : Int) < l.length := by omega
                have hb3 : b < w3.heap.size := Nat.lt_of_lt_of_le hb G3.out.size
                have z3 := G3.out.size
                clear hF HF heq
                go_wp2_with fail
                go_quiet (fail)
                go_wp2_with (at_builtin; refine wpList_append_bytes (base := w.heap.size) (.tmp 61) (.tmp 66) _ rfl rfl i0 _ Try.underlying28 HI.out HZ0.out HZ1.out HZ2.out rfl _ [] [] rfl rfl (World.ownsRow_nil _ _ _ _) (show IsB (w3.drewN nq) _ _ from (HD0.out.below G3.out : IsB w3 _ _)) (by have := HLEN.out; omega) z3 ?_; intro v2 w2 hown2 hb2; simp only [Nat.zero_add, List.nil_append] at hown2; have C4 := (hb2.cell (p := ⟨b, o, none⟩) hb).trans C3; have HO2 := Lib.hid hown2; have HB2 := Lib.hid hb2; clear hown2 hb2)
                ((try simp only [Exit.inBlock, Exit.then]); refine bodyPost_ret (results_tmp4 rfl _ _ _) rfl ?_)
                exact ⟨_, (congrArg (fun z => Ending.returned (.tuple #[.int .u8 c0, v2, .int .i64 z, .int .i64 0])) (by omega)).trans (ret_tf HF2.out), by rw [HF2.out]; exact OwnS.of_own HO2.out HD0.out.rng, (below_drewN G3.out nq).trans HB2.out⟩
              · rw [decide_eq_false (fun h => heq h.symm)] at hse
                have hF := HF.out
                rw [if_pos heq] at hF
                have HF2 := Lib.hid hF
                clear hF HF heq
                go_wp2_with fail
                go_quiet (fail)
                go_wp2_with fail
                ((try simp only [Exit.inBlock, Exit.then]); refine bodyPost_ret (results_tmp4 rfl _ _ _) rfl ?_)
                exact ⟨_, ret_tf HF2.out, by rw [HF2.out]; exact OwnS.none, below_drewN G3.out _⟩
            · go_enter Try.func23, Try.ntmps23
              go_wp2_with fail
              refine HT.out.mono ?_
              rintro e w1 ⟨rfl, rfl⟩
              go_wp2_with fail
              have n1 : 0 ≤ 1 + (K : Int) := by omega
              have n2 : 1 + (K : Int) ≤ (cap : Int) := by omega
              have n3 : (1 + (K : Int)).toNat = 1 + K := by omega
              have n4 : 0 ≤ 1 + (K : Int) + 4 := by omega
              have n5 : 1 + (K : Int) + 4 ≤ (cap : Int) := by omega
              have n6 : (1 + (K : Int) + 4).toNat = 1 + K + 4 := by omega
              have n7 : 0 ≤ 1 + (K : Int) + 4 + N := by omega
              have n8 : 1 + (K : Int) + 4 + N ≤ (cap : Int) := by omega
              have n9 : (1 + (K : Int) + 4 + N).toNat = 1 + K + 4 + N := by omega
              have n10 : 1 + K + 4 + N - (1 + K + 4) = N := by omega
              go_region_held3 (fun _ => True) (trivial) ((go_at_call 29; refine (rsums_any _ _ (l.take (1 + K)) D _ (show IsB w.drew _ _ from HA.out) (show IsB w.drew _ _ from HD.out)).mono ?_; unfold SumsPost; rintro e w3 ⟨sv, rfl, hsv, g3⟩; have G3 := Lib.hid (((Below.refl _ w).drew).trans g3); have HS3 := Lib.hid (IsB.of_own hsv (le4_rng _)); obtain ⟨so, scap, rfl, -, -, -, -⟩ := own_form hsv; clear hsv g3))
              have k1 := fun nq => (show IsB (w3.drewN nq) _ _ from HS3.out).conv Try.underlying28 Try.underlying5 Try.underlying9
              have k2 := fun nq => (show IsB (w3.drewN nq) _ _ from (HS.out.below G3.out : IsB w3 _ _)).conv Try.underlying28 Try.underlying5 Try.underlying9
              have k3 := HS3.out.conv Try.underlying28 Try.underlying5 Try.underlying9
              have k4 := (HS.out.below G3.out : IsB w3 _ _).conv Try.underlying28 Try.underlying5 Try.underlying9
              have hse := str_beq HS3.out.rng HS.out.rng
              by_cases heq : (l.drop (1 + K)).take 4 = le4 (sumsF (l.take (1 + K)) D)
              · rw [decide_eq_true heq.symm] at hse
                have hF := HF.out
                rw [if_neg (fun h => h heq), HG.out] at hF
                have HF2 := Lib.hid hF
                have C3 := (G3.out.cell (p := ⟨b, o, none⟩) hb).trans HC0.out
                have hl0 : (0 : Int) < l.length := by omega
                have hb3 : b < w3.heap.size := Nat.lt_of_lt_of_le hb G3.out.size
                have z3 := G3.out.size
                clear hF HF heq
                go_wp2_with fail
                go_quiet (fail)
                go_wp2_with (at_builtin; refine wpList_append_bytes (base := w.heap.size) (.tmp 61) (.tmp 66) _ rfl rfl i0 _ Try.underlying28 HI.out HZ0.out HZ1.out HZ2.out rfl _ [] D rfl rfl (World.ownsRow_nil _ _ _ _) (show IsB (w3.drewN nq) _ _ from (HD.out.below G3.out : IsB w3 _ _)) (by have := HLEN.out; omega) z3 ?_; intro v2 w2 hown2 hb2; simp only [Nat.zero_add, List.nil_append] at hown2; have C4 := (hb2.cell (p := ⟨b, o, none⟩) hb).trans C3; have HO2 := Lib.hid hown2; have HB2 := Lib.hid hb2; clear hown2 hb2)
                ((try simp only [Exit.inBlock, Exit.then]); refine bodyPost_ret (results_tmp4 rfl _ _ _) rfl ?_)
                exact ⟨_, (congrArg (fun z => Ending.returned (.tuple #[.int .u8 c0, v2, .int .i64 z, .int .i64 0])) (by omega)).trans (ret_tf HF2.out), by rw [HF2.out]; exact OwnS.of_own HO2.out HD.out.rng, (below_drewN G3.out nq).trans HB2.out⟩
              · rw [decide_eq_false (fun h => heq h.symm)] at hse
                have hF := HF.out
                rw [if_pos heq] at hF
                have HF2 := Lib.hid hF
                clear hF HF heq
                go_wp2_with fail
                go_quiet (fail)
                go_wp2_with fail
                ((try simp only [Exit.inBlock, Exit.then]); refine bodyPost_ret (results_tmp4 rfl _ _ _) rfl ?_)
                exact ⟨_, ret_tf HF2.out, by rw [HF2.out]; exact OwnS.none, below_drewN G3.out _⟩
      · have HF := Lib.hid (bad e (by rw [hL, if_pos he]) he)
        have q : (e != 0) = true := by simp [he]
        clear hF hL bad he
        go_enter Try.func23, Try.ntmps23
        go_wp2_with fail
        refine HT.out.mono ?_
        rintro e w1 ⟨rfl, rfl⟩
        go_wp2_with fail
        ((try simp only [Exit.inBlock, Exit.then]); refine bodyPost_ret (results_tmp4 rfl _ _ _) rfl ?_)
        exact tf_bad HF.out
end Codec
end Go.Proofs.Ytlfelpbcnpjneaa
