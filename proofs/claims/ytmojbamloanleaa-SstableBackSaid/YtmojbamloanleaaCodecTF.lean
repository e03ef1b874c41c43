/- codec: TakeFrame. -/
import Derived.Test.YtmojbamloanleaaCodecFr
import Derived.Test.YtmojbamloanleaaCodecRTT
import Derived.Test.YtmojbamloanleaaCodecLent
import Derived.Test.YtmojbamloanleaaEq
import Derived.Deep.RegionHeld3
set_option linter.unusedVariables false
set_option linter.unusedSimpArgs false
namespace Go.Proofs.Ytmojbamloanleaa
open Go.RowKit
namespace Codec
theorem results_tmp4 {fn : Func} {t u v x : Tmp} (h : fn.results = #[.tmp t, .tmp u, .tmp v, .tmp x]) (tmps : Array Value) (P : Program) (w : World) :
    (results fn tmps).run P w = .ok (.tuple #[tmps.getD t undef, tmps.getD u undef, tmps.getD v undef, tmps.getD x undef]) w := by
  simp [results, h]
def takeFrameF (l : List Int) : Int × List Int × Int × Int :=
  if l.length = 0 then (0, [], 0, 10)
  else if (lenF (l.drop 1) 4).2.2 ≠ 0 then (0, [], 0, (lenF (l.drop 1) 4).2.2)
  else if (l.drop ((lenF (l.drop 1) 4).2.1.toNat + 1)).take 4 ≠ le4 (sumsF (l.take ((lenF (l.drop 1) 4).2.1.toNat + 1)) ((l.drop ((lenF (l.drop 1) 4).2.1.toNat + 5)).take (lenF (l.drop 1) 4).1.toNat)) then (0, [], 0, 13)
  else (l.getD 0 0, (l.drop ((lenF (l.drop 1) 4).2.1.toNat + 5)).take (lenF (l.drop 1) 4).1.toNat, (lenF (l.drop 1) 4).2.1 + 5 + (lenF (l.drop 1) 4).1, 0)
def TFPost (l : List Int) (w : World) (e : Ending) (w' : World) : Prop :=
  ∃ v, e = .returned (.tuple #[.int .u8 (takeFrameF l).1, v, .int .i64 (takeFrameF l).2.2.1, .int .i64 (takeFrameF l).2.2.2]) ∧ OwnS w' w.heap.size 5 v (takeFrameF l).2.1 ∧ Below w.heap.size w w'
theorem ret_tf {v : Value} {t : Int × List Int × Int × Int} {a c d : Int} {b : List Int} (h : t = (a, b, c, d)) : Ending.returned (.tuple #[.int .u8 a, v, .int .i64 c, .int .i64 d]) = .returned (.tuple #[.int .u8 t.1, v, .int .i64 t.2.2.1, .int .i64 t.2.2.2]) := by subst h; rfl
theorem OwnS.none {w : World} {base : Nat} {e : TypeId} : OwnS w base e (.slice none 0 0) [] := ⟨Rng.nil, .inl ⟨rfl, rfl⟩⟩
/-- what is not read further -/
theorem tf_bad {l : List Int} {w : World} {x : Int} (h : takeFrameF l = (0, [], 0, x)) : TFPost l w (.returned (.tuple #[.int .u8 0, .slice none 0 0, .int .i64 0, .int .i64 x])) w :=
  ⟨_, ret_tf h, by rw [h]; exact OwnS.none, Below.refl _ _⟩
set_option maxRecDepth 100000 in
set_option maxHeartbeats 1000000 in
theorem takeFrame_any (v : Value) (l : List Int) (w : World) (h : IsB w v l) (hl : l.length ≤ 140737488355328) :
    Calls Try.prog 42 #[v] w (TFPost l w) := by
  obtain ⟨ao, cap, rfl, hnc, hcap, hform⟩ := h.form
  have HB := Lib.hid h
  have hF : takeFrameF l = if l.length = 0 then (0, [], 0, 10)
    else if (lenF (l.drop 1) 4).2.2 ≠ 0 then (0, [], 0, (lenF (l.drop 1) 4).2.2)
    else if (l.drop ((lenF (l.drop 1) 4).2.1.toNat + 1)).take 4 ≠ le4 (sumsF (l.take ((lenF (l.drop 1) 4).2.1.toNat + 1)) ((l.drop ((lenF (l.drop 1) 4).2.1.toNat + 5)).take (lenF (l.drop 1) 4).1.toNat)) then (0, [], 0, 13)
    else (l.getD 0 0, (l.drop ((lenF (l.drop 1) 4).2.1.toNat + 5)).take (lenF (l.drop 1) 4).1.toNat, (lenF (l.drop 1) 4).2.1 + 5 + (lenF (l.drop 1) 4).1, 0) := rfl
  by_cases h0 : l.length = 0
  · rw [if_pos h0] at hF
    have HF := Lib.hid hF
    have q : ((l.length : Int) == 0) = true := by rw [beq_iff_eq]; omega
    clear hF h hform
    go_enter Try.func42, Try.ntmps42
    go_wp2_with fail
    ((try simp only [Exit.inBlock, Exit.then]); refine bodyPost_ret (results_tmp4 rfl _ _ _) rfl ?_)
    exact tf_bad HF.out
  · rw [if_neg h0] at hF
    obtain ⟨b, o, rfl, hb⟩ := hform.resolve_left (fun h => h0 (by rw [h]; rfl))
    clear hform
    have q : ((l.length : Int) == 0) = false := beq_eq_false_iff_ne.2 (by omega)
    by_cases hc1 : cap = 1
    · subst hc1
      have hl1 : l.length = 1 := by omega
      have e1 : l.drop 1 = [] := List.drop_eq_nil_of_le (by omega)
      rw [e1] at hF
      have e2 : lenF [] 4 = (0, 0, 10) := by decide
      rw [e2, if_pos (by decide)] at hF
      have HF := Lib.hid hF
      have hL := length_any _ [] 4 w HB.out.cut0 (by decide)
      rw [e2] at hL
      have HL := Lib.hid hL
      clear hF h hL e1 e2
      go_enter Try.func42, Try.ntmps42
      go_wp2_with fail
      refine HL.out.mono ?_
      rintro e w1 ⟨rfl, rfl⟩
      go_wp2_with fail
      ((try simp only [Exit.inBlock, Exit.then]); refine bodyPost_ret (results_tmp4 rfl _ _ _) rfl ?_)
      exact tf_bad HF.out
    · have hcut : IsB w (.slice (some ⟨b, o + 1, none⟩) (l.length - 1) (cap - 1)) (l.drop 1) := by
        have := HB.out.cut 1 (l.length - 1) (by omega)
        rwa [List.take_of_length_le (by rw [List.length_drop]; omega)] at this
      have hbd := lenF_bd hcut.rng 4 (by decide)
      rw [List.length_drop] at hbd
      have HL := Lib.hid (length_any _ (l.drop 1) 4 w hcut (by decide))
      generalize lenF (l.drop 1) 4 = t at HL hF hbd
      obtain ⟨n, at_, e⟩ := t
      simp only at HL hF hbd
      obtain ⟨b1, b2, b3⟩ := hbd
      clear h hcut
      by_cases he : e = 0
      · obtain ⟨c1, c2, c3, c4⟩ := b3 he
        subst he
        obtain ⟨N, rfl⟩ := Int.eq_ofNat_of_zero_le c1
        obtain ⟨K, rfl⟩ := Int.eq_ofNat_of_zero_le c3
        rw [if_neg (by simp)] at hF
        simp only [Int.toNat_natCast] at hF
        have hKN : K + 5 + N ≤ l.length := by omega
        have HA := Lib.hid (IsB.front HB.out (K + 1) (by omega))
        have hS : IsB w (.slice (some ⟨b, o + (K + 1), none⟩) 4 (cap - (K + 1))) ((l.drop (K + 1)).take 4) := by
          have := HB.out.cut (K + 1) 4 (by omega)
          rwa [Option.map_some, plain_add'] at this
        have hD : IsB w (.slice (some ⟨b, o + (K + 5), none⟩) N (cap - (K + 5))) ((l.drop (K + 5)).take N) := by
          have := HB.out.cut (K + 5) N (by omega)
          rwa [Option.map_some, plain_add'] at this
        have hlen : ((l.drop (K + 5)).take N).length = N := by rw [List.length_take, List.length_drop]; omega
        generalize (l.drop (K + 5)).take N = D at hD hF hlen
        have HLEN := Lib.hid hlen
        have HS := Lib.hid hS
        have HD := Lib.hid hD
        clear hS hD hlen
        have hw1 := IntWalk.i64_in ((K : Int) + 1) (by omega)
        have hw2 := IntWalk.i64_in ((K : Int) + 5) (by omega)
        have hw3 := IntWalk.i64_in ((K : Int) + 5 + N) (by omega)
        have hKK : K + 5 ≤ cap ∧ (K : Int) + 1 ≤ (K : Int) + 5 ∧ (K : Int) + 5 ≤ (K : Int) + 5 + N ∧ K + 5 + N ≤ cap := by omega
        obtain ⟨hk1, hk2, hk3, hk4⟩ := hKK
        have HF := Lib.hid hF
        clear hF b3 c1 c3 c4
        have hc00 := HB.out.at_ (k := 0) (by omega)
        obtain ⟨_, _, c0, hcc, -, hx0, hc0, -, -⟩ := hc00
        cases hcc
        simp only [Nat.add_zero] at hc0
        have hget : l.getD 0 0 = c0 := by rw [List.getD_eq_getElem?_getD, hx0.out]; rfl
        have HG := Lib.hid hget
        have HC0 := Lib.hid hc0
        clear hget hx0 hc0
        by_cases hc5 : cap = K + 5
        · have hN0 : N = 0 := by omega
          subst hN0
          have hD0 : D = [] := List.eq_nil_of_length_eq_zero HLEN.out
          subst hD0
          subst hc5
          have HD0 := Lib.hid HB.out.cut0
          rw [show K + 5 - (K + 1) = 4 from by omega] at HS
          clear HD
          go_enter Try.func42, Try.ntmps42
          go_wp2_with fail
          refine HL.out.mono ?_
          rintro e w1 ⟨rfl, rfl⟩
          go_wp2_with fail
          go_quiet (fail)
          go_wp2_with fail
          refine (sums_any _ _ (l.take (K + 1)) [] _ (show IsB (w.drewN nq) _ _ from HA.out) (show IsB (w.drewN nq) _ _ from HD0.out)).mono ?_
          unfold SumsPost
          rintro e w3 ⟨sv, rfl, hsv, g3⟩
          have G3 := Lib.hid ((below_drewN (Below.refl _ w) nq).trans g3)
          have HS3 := Lib.hid (IsB.of_own hsv (le4_rng _))
          have HE := Lib.hid (bytesEqual_any _ sv _ _ w3 (HS.out.below G3.out) HS3.out)
          obtain ⟨so, scap, rfl, -, -, -, -⟩ := own_form hsv
          clear hsv g3
          go_wp2_with fail
          refine HE.out.mono ?_
          rintro e w4 ⟨rfl, rfl⟩
          by_cases heq : (l.drop (K + 1)).take 4 = le4 (sumsF (l.take (K + 1)) [])
          · have hd : decide ((l.drop (K + 1)).take 4 = le4 (sumsF (l.take (K + 1)) [])) = true := by rw [decide_eq_true_iff]; exact heq
            have hF := HF.out
            rw [if_neg (fun h => h heq), HG.out] at hF
            have HF2 := Lib.hid hF
            have C3 := (G3.out.cell (p := ⟨b, o, none⟩) hb).trans HC0.out
            clear hF HF
            have hl0 : (0 : Int) < l.length := by omega
            have hl0' : 0 < l.length := by omega
            have hb3 : b < w3.heap.size := Nat.lt_of_lt_of_le hb G3.out.size
            go_wp2_with fail
            go_region_held3 (fun w' => w'.cell? ⟨b, o, none⟩ = some (.int .u8 c0)) (first | assumption | go_keep) (first
              | (go_at_call 39; refine (clone_any' _ _ _ [] w3.drew (show IsB w3.drew _ _ from (HD0.out.below G3.out : IsB w3 _ _)) (by rw [HLEN.out]; omega)).mono ?_; unfold ClonePost; rintro e w5 ⟨cv, rfl, hcv, g5⟩; have C5 := (g5.cell (p := ⟨b, o, none⟩) hb3).trans C3; obtain ⟨co, ccap, rfl, q1, q2, -, -⟩ := hcv.form; have HC := Lib.hid hcv; have G5 := Lib.hid g5; clear hcv g5)
              | (go_at_call 38; refine (clip_any _ _ _ _ (by first | assumption | omega) (by first | assumption | omega)).mono ?_; rintro e w6 ⟨rfl, rfl⟩))
            all_goals (
              go_wp2_with fail
              ((try simp only [Exit.inBlock, Exit.then]); refine bodyPost_ret (results_tmp4 rfl _ _ _) rfl ?_)
              exact ⟨_, ret_tf HF2.out, by rw [HF2.out]; exact (HC.out.mono G3.out.size).clip, bel_call G3.out ((Below.refl _ w3).drew.trans G5.out)⟩)
          · have hd : decide ((l.drop (K + 1)).take 4 = le4 (sumsF (l.take (K + 1)) [])) = false := by rw [decide_eq_false_iff_not]; exact heq
            have hF := HF.out
            rw [if_pos heq] at hF
            have HF2 := Lib.hid hF
            clear hF HF
            go_wp2_with fail
            ((try simp only [Exit.inBlock, Exit.then]); refine bodyPost_ret (results_tmp4 rfl _ _ _) rfl ?_)
            exact ⟨_, ret_tf HF2.out, by rw [HF2.out]; exact OwnS.none, G3.out⟩
        · go_enter Try.func42, Try.ntmps42
          go_wp2_with fail
          refine HL.out.mono ?_
          rintro e w1 ⟨rfl, rfl⟩
          go_wp2_with fail
          go_quiet (fail)
          go_wp2_with fail
          refine (sums_any _ _ (l.take (K + 1)) D _ (show IsB (w.drewN nq) _ _ from HA.out) (show IsB (w.drewN nq) _ _ from HD.out)).mono ?_
          unfold SumsPost
          rintro e w3 ⟨sv, rfl, hsv, g3⟩
          have G3 := Lib.hid ((below_drewN (Below.refl _ w) nq).trans g3)
          have HS3 := Lib.hid (IsB.of_own hsv (le4_rng _))
          have HE := Lib.hid (bytesEqual_any _ sv _ _ w3 (HS.out.below G3.out) HS3.out)
          obtain ⟨so, scap, rfl, -, -, -, -⟩ := own_form hsv
          clear hsv g3
          go_wp2_with fail
          refine HE.out.mono ?_
          rintro e w4 ⟨rfl, rfl⟩
          by_cases heq : (l.drop (K + 1)).take 4 = le4 (sumsF (l.take (K + 1)) D)
          · have hd : decide ((l.drop (K + 1)).take 4 = le4 (sumsF (l.take (K + 1)) D)) = true := by rw [decide_eq_true_iff]; exact heq
            have hF := HF.out
            rw [if_neg (fun h => h heq), HG.out] at hF
            have HF2 := Lib.hid hF
            have C3 := (G3.out.cell (p := ⟨b, o, none⟩) hb).trans HC0.out
            clear hF HF
            have hl0 : (0 : Int) < l.length := by omega
            have hl0' : 0 < l.length := by omega
            have hb3 : b < w3.heap.size := Nat.lt_of_lt_of_le hb G3.out.size
            go_wp2_with fail
            go_region_held3 (fun w' => w'.cell? ⟨b, o, none⟩ = some (.int .u8 c0)) (first | assumption | go_keep) (first
              | (go_at_call 39; refine (clone_any' _ _ _ D w3.drew (show IsB w3.drew _ _ from (HD.out.below G3.out : IsB w3 _ _)) (by rw [HLEN.out]; omega)).mono ?_; unfold ClonePost; rintro e w5 ⟨cv, rfl, hcv, g5⟩; have C5 := (g5.cell (p := ⟨b, o, none⟩) hb3).trans C3; obtain ⟨co, ccap, rfl, q1, q2, -, -⟩ := hcv.form; have HC := Lib.hid hcv; have G5 := Lib.hid g5; clear hcv g5)
              | (go_at_call 38; refine (clip_any _ _ _ _ (by first | assumption | omega) (by first | assumption | omega)).mono ?_; rintro e w6 ⟨rfl, rfl⟩))
            all_goals (
              go_wp2_with fail
              ((try simp only [Exit.inBlock, Exit.then]); refine bodyPost_ret (results_tmp4 rfl _ _ _) rfl ?_)
              exact ⟨_, ret_tf HF2.out, by rw [HF2.out]; exact (HC.out.mono G3.out.size).clip, bel_call G3.out ((Below.refl _ w3).drew.trans G5.out)⟩)
          · have hd : decide ((l.drop (K + 1)).take 4 = le4 (sumsF (l.take (K + 1)) D)) = false := by rw [decide_eq_false_iff_not]; exact heq
            have hF := HF.out
            rw [if_pos heq] at hF
            have HF2 := Lib.hid hF
            clear hF HF
            go_wp2_with fail
            ((try simp only [Exit.inBlock, Exit.then]); refine bodyPost_ret (results_tmp4 rfl _ _ _) rfl ?_)
            exact ⟨_, ret_tf HF2.out, by rw [HF2.out]; exact OwnS.none, G3.out⟩
      · rw [if_pos he] at hF
        have HF := Lib.hid hF
        have q : (e != 0) = true := by simp [he]
        clear hF b3 he
        go_enter Try.func42, Try.ntmps42
        go_wp2_with fail
        refine HL.out.mono ?_
        rintro e w1 ⟨rfl, rfl⟩
        go_wp2_with fail
        ((try simp only [Exit.inBlock, Exit.then]); refine bodyPost_ret (results_tmp4 rfl _ _ _) rfl ?_)
        exact tf_bad HF.out
end Codec
end Go.Proofs.Ytmojbamloanleaa
