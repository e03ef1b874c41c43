/- sstable: the builder's end (walk). -/
import Derived.Test.YtmojbamloanleaaSs16
import Derived.Lib.SlBytesConst
import Derived.Deep.DeepCutAuto
set_option linter.unusedVariables false
set_option linter.unusedSimpArgs false
namespace Go.Proofs.Ytmojbamloanleaa
open Go.RowKit
namespace Ss
open Mt Codec
def footE (O O1 : List Int) (cnt bn pn : Nat) : List Int := hiB O.length 8 ++ hiB O1.length 8 ++ hiB cnt 8 ++ hiB bn 4 ++ hiB pn 4 ++ [67, 79, 82, 77]
/-- a table's bytes, of the blocks' and what the index says of them -/
def tabE (O J : List Int) (ks : List (List Int)) (nb cnt bn pn : Nat) : List Int :=
  O ++ frameF 70 (Bloom.makeF ks pn) ++ frameF 73 (numN nb ++ J) ++ (footE O (O ++ frameF 70 (Bloom.makeF ks pn)) cnt bn pn ++ le4 (sumF (footE O (O ++ frameF 70 (Bloom.makeF ks pn)) cnt bn pn)))
theorem tabE_eq (l : List En) (D : List (List En)) (bn pn : Nat) : tabE (doneF D).1 (doneF D).2 (keysF l) D.length l.length bn pn = tableF l D bn pn := rfl
def EndP (J T : List Int) (nb base : Nat) (w : World) (e : Ending) (w' : World) : Prop :=
  ∃ v, e = .returned (.tuple #[v, .int .i64 (if 2097152 < (numN nb ++ J).length ∨ 4194304 < T.length then 43 else 0)]) ∧ OwnS w' base 5 v (if 2097152 < (numN nb ++ J).length ∨ 4194304 < T.length then [] else T) ∧ Below base w w'
theorem foot_flat (O O1 : List Int) (cnt bn pn : Nat) : [hiB O.length 8, hiB O1.length 8, hiB cnt 8, hiB bn 4, hiB pn 4, [67, 79, 82, 77]].flatten = footE O O1 cnt bn pn := by simp [footE]
theorem footE_len (O O1 : List Int) (cnt bn pn : Nat) : (footE O O1 cnt bn pn).length = 36 := by simp [footE, hiB_len]
theorem footE_rng (O O1 : List Int) (cnt bn pn : Nat) : Rng (footE O O1 cnt bn pn) := (((((hiB_rng _ _).append (hiB_rng _ _)).append (hiB_rng _ _)).append (hiB_rng _ _)).append (hiB_rng _ _)).append (fun y hy => by simp at hy; omega)
theorem corm2 (w : World) : IsB (w.alloc (.cells #[.int .u8 67, .int .u8 79, .int .u8 82, .int .u8 77] 5 (4, 5))) (.slice (some ⟨w.heap.size, 0, none⟩) 4 4) [67, 79, 82, 77] := isB_const w [67, 79, 82, 77] (fun y hy => by simp at hy; omega) (by simp) _ (4, 5)
set_option maxRecDepth 100000 in
set_option maxHeartbeats 8000000 in
theorem end_any (base wb : Nat) (ov bv iv lv kv : Value) (O J body last : List Int) (ks : List (List Int)) (many nb cnt bn pn : Nat) (w : World) (h : Bu base w wb ov bv iv lv O body J many nb last) (hk : IsBB w kv ks) (hkl : ks.length ≤ 65536) (hcn : cnt ≤ 65536) (hbn : bn ≤ 65536) (hpk : 1 ≤ pn ∧ pn ≤ 30)
    (hol : O.length ≤ 17592186044416) (hjl : J.length ≤ 17592186044416) (hj0 : 0 < J.length) (hnb : nb ≤ 70000) :
    Calls Try.prog 37 #[.pointer (some ⟨wb, 0, none⟩), .int .i64 cnt, kv, .int .i64 bn, .int .i64 pn] w (EndP J (tabE O J ks nb cnt bn pn) nb base w) := by
  obtain ⟨i0, hi0, hz0, hz1, hz2⟩ := info_parts infoU8
  have HI := Lib.hid hi0; have HZ0 := Lib.hid hz0; have HZ1 := Lib.hid hz1; have HZ2 := Lib.hid hz2
  have hqq : (1 : Int) ≤ (pn : Int) ∧ (pn : Int) ≤ 30 := by omega
  have HMK := Lib.hid (Bloom.make_ok kv ks pn w hk ⟨hqq, hkl⟩)
  have HML := Lib.hid (make_len (ls := ks) hqq hkl)
  have HMR := Lib.hid (make_rng (ls := ks) hqq)
  have c0 := h.c0
  have HB0 := Lib.hid (Nat.le_trans h.bw (Nat.le_of_lt h.lt))
  have H := Lib.hid h
  obtain ⟨oo, oc, rfl, -, -, -, -⟩ := own_form h.oo
  obtain ⟨ko, kc, rfl, -⟩ := hk.form
  unfold tabE
  unfold Bloom.MakePost at HMK
  generalize Bloom.makeF ks (pn : Int) = fil at HML HMR HMK ⊢
  obtain ⟨TB, hTB⟩ : ∃ TB, O ++ frameF 70 fil ++ frameF 73 (numN nb ++ J) ++ (footE O (O ++ frameF 70 fil) cnt bn pn ++ le4 (sumF (footE O (O ++ frameF 70 fil) cnt bn pn))) = TB := ⟨_, rfl⟩
  rw [hTB]
  have HTB := Lib.hid hTB
  clear hi0 hz0 hz1 hz2 h hk hTB
  go_enter Try.func37, Try.ntmps37
  go_wp2_with fail
  refine HMK.out.mono ?_
  rintro e w1 ⟨fv, rfl, hof, hb1⟩
  obtain ⟨fvo, fvc, rfl, -, -, -, -⟩ := own_form hof
  have H1 := Lib.hid (H.out.below hb1)
  have HFA := Lib.hid (frame_any base wb (.slice oo O.length oc) bv iv lv (.slice fvo fil.length fvc) O body J last fil many nb 70 w1 H1.out (by decide) (IsB.of_own hof HMR.out) (by omega) (by have := HML.out; omega))
  have HF1 := Lib.hid (frame_le (k := 70) (l := fil) (by have := HML.out; omega))
  have B1 : Hid (Below base w w1) := Lib.hid (hb1.mono HB0.out)
  clear hof hb1 HMK H c0
  go_wp2_with fail
  refine HFA.out.mono ?_
  unfold BuP
  rintro e w2 ⟨rfl, ⟨ov2, bv2, iv2, lv2, h2, k2⟩, g2⟩
  have B2 : Hid (Below base w w2) := Lib.hid (B1.out.trans (H1.out.chgB g2))
  obtain ⟨O1, hO1⟩ : ∃ O1, O ++ frameF 70 fil = O1 := ⟨_, rfl⟩
  have HO1 : Hid (O1.length ≤ 17592186844416) := Lib.hid (by rw [← hO1, List.length_append]; have := HF1.out; have := HML.out; omega)
  rw [hO1] at h2
  have H2 := Lib.hid h2
  have HE1 := Lib.hid hO1
  obtain ⟨o2, oc2, rfl, -, -, -, -⟩ := own_form h2.oo
  obtain ⟨io, ic, rfl, -, -, -, -⟩ := own_form h2.oi
  have d0 := h2.c0
  have d2 := h2.c2
  have d4 := h2.c4
  have hol1 := HO1.out
  have u1 := IntWalk.u64_in (nb : Int) (by omega)
  clear h2 k2 g2 HFA hO1
  go_wp2_with fail
  obtain ⟨I, hI⟩ : ∃ I, numN nb ++ J = I := ⟨_, rfl⟩
  have hIl : I.length = (numN nb).length + J.length := by rw [← hI, List.length_append]
  have hn10 := numN_len10 (n := nb) (by omega)
  have HIL := Lib.hid hIl
  have HIR : Hid (Rng I) := Lib.hid (by rw [← hI]; exact (numN_rng _).append H2.out.ri)
  have HIE := Lib.hid hI
  clear hI hIl
  go_region_held3 (fun w' => w'.cell? ⟨wb, 4, none⟩ = some (.int .i64 nb) ∧ w'.cell? ⟨wb, 2, none⟩ = some (.slice io J.length ic)) (first | exact ⟨by assumption, by assumption⟩ | go_keep) (first
    | (go_at_call 65; refine (number_clip nb w2.drew (by omega)).mono ?_; unfold NumCPost; rintro e w3 ⟨ao, rfl, o3, b3⟩; have O3 := Lib.hid o3; have H3 := Lib.hid (H2.out.below ((Below.refl _ w2).drew.trans b3)); have B3 : Hid (Below base w w3) := Lib.hid (B2.out.trans (((Below.refl _ w2).drew.trans b3).mono (Nat.le_trans H2.out.bw (Nat.le_of_lt H2.out.lt)))); have d2 : w3.cell? ⟨wb, 2, none⟩ = some (.slice io J.length ic) := H3.out.c2; have d4 : w3.cell? ⟨wb, 4, none⟩ = some (.int .i64 nb) := H3.out.c4; clear o3 b3)
    | (refine step_of_list rfl ?_; refine wpList_append_clip (w := w3) (l := numN nb) (m := J) (.tmp 43) (.tmp 47) _ rfl rfl i0 Try.underlying25 HI.out HZ0.out HZ1.out HZ2.out _ rfl rfl O3.out (IsB.of_own H3.out.oi H3.out.ri) hj0 (by omega) ?_; intro v4 w4 ho hg; refine list_done ?_; have O4 : Hid (w4.ownsRow w3.heap.size 5 1 v4 I.length (I.map (Value.int .u8))) := Lib.hid (by rw [← HIE.out, List.length_append]; exact ho); obtain ⟨v4o, v4c, rfl, -, -, -, -⟩ := own_form O4.out; have g4 : Below w3.heap.size w3 w4 := below_own hg (Nat.le_refl _) (fun k hk => by cases hk); have H4 := Lib.hid (H3.out.below g4); have B4 : Hid (Below base w w4) := Lib.hid (B3.out.trans (g4.mono (Nat.le_trans H3.out.bw (Nat.le_of_lt H3.out.lt)))); have d2 : w4.cell? ⟨wb, 2, none⟩ = some (.slice io J.length ic) := H4.out.c2; have d4 : w4.cell? ⟨wb, 4, none⟩ = some (.int .i64 nb) := H4.out.c4; clear ho hg g4))
  by_cases hil : 2097152 < I.length
  · have q1 : (2097152 : Int) < (I.length : Int) := by omega
    go_wp2_with fail
    refine bodyPost_ret (v := .tuple #[.slice none 0 0, .int .i64 43]) (by first | (simp [results, Try.results37, go_sem]; done) | (simp [results, Try.results37, go_sem]; go_simp)) rfl ⟨_, by rw [if_pos (Or.inl (by rw [HIE.out]; exact hil))], by rw [if_pos (Or.inl (by rw [HIE.out]; exact hil))]; exact ownS_nil, B4.out⟩
  have q1 : ¬ (2097152 : Int) < (I.length : Int) := by omega
  have HFB := Lib.hid (frame_any base wb (.slice o2 O1.length oc2) bv2 (.slice io J.length ic) lv2 (.slice v4o I.length v4c) O1 body J last I many nb 73 w4 H4.out (by decide) (IsB.of_own O4.out HIR.out) (by omega) (by omega))
  have HF2 := Lib.hid (frame_le (k := 73) (l := I) (by omega))
  go_wp2_with fail
  refine HFB.out.mono ?_
  unfold BuP
  rintro e w5 ⟨rfl, ⟨ov5, bv5, iv5, lv5, h5, k5⟩, g5⟩
  have B5 : Hid (Below base w w5) := Lib.hid (B4.out.trans (H4.out.chgB g5))
  obtain ⟨O2, hO2⟩ : ∃ O2, O1 ++ frameF 73 I = O2 := ⟨_, rfl⟩
  have HO2 : Hid (O2.length ≤ 17592189844416) := Lib.hid (by rw [← hO2, List.length_append]; have := HF2.out; omega)
  rw [hO2] at h5
  have H5 := Lib.hid h5
  have HE2 := Lib.hid hO2
  obtain ⟨o5, oc5, rfl, -, -, -, -⟩ := own_form h5.oo
  have hol2 := HO2.out
  clear h5 k5 g5 HFB hO2 d0 d2 d4 O4
  have G5 : Hid (Below w5.heap.size w5 w5) := Lib.hid (Below.refl _ _)
  go_wp2_with fail
  refine (high8_any O.length _ (by omega)).mono ?_
  unfold LaidP
  rintro e w6 ⟨v, rfl, ho, hb9⟩
  obtain ⟨a1, a1c, rfl, -, -, -, -⟩ := ho.form
  have E6 := Lib.hid ho.isB
  have G6 : Hid (Below w5.heap.size w5 w6) := Lib.hid (bel_call G5.out hb9)
  clear ho hb9
  rw [hiB_len] at E6
  rw [hiB_len O.length 8]
  go_wp2_with fail
  refine (high8_any O1.length _ (by omega)).mono ?_
  unfold LaidP
  rintro e w7 ⟨v, rfl, ho, hb9⟩
  obtain ⟨a2, a2c, rfl, -, -, -, -⟩ := ho.form
  have E7 := Lib.hid ho.isB
  have G7 : Hid (Below w5.heap.size w5 w7) := Lib.hid (bel_call G6.out hb9)
  replace E6 := Lib.hid (E6.out.below hb9)
  clear ho hb9
  rw [hiB_len] at E7
  rw [hiB_len O1.length 8]
  go_wp2_with fail
  refine (high8_any cnt _ (by omega)).mono ?_
  unfold LaidP
  rintro e w8 ⟨v, rfl, ho, hb9⟩
  obtain ⟨a3, a3c, rfl, -, -, -, -⟩ := ho.form
  have E8 := Lib.hid ho.isB
  have G8 : Hid (Below w5.heap.size w5 w8) := Lib.hid (bel_call G7.out hb9)
  replace E6 := Lib.hid (E6.out.below hb9)
  replace E7 := Lib.hid (E7.out.below hb9)
  clear ho hb9
  rw [hiB_len] at E8
  rw [hiB_len cnt 8]
  go_wp2_with fail
  refine (high4_any bn _ (by omega)).mono ?_
  unfold LaidP
  rintro e w9 ⟨v, rfl, ho, hb9⟩
  obtain ⟨a4, a4c, rfl, -, -, -, -⟩ := ho.form
  have E9 := Lib.hid ho.isB
  have G9 : Hid (Below w5.heap.size w5 w9) := Lib.hid (bel_call G8.out hb9)
  replace E6 := Lib.hid (E6.out.below hb9)
  replace E7 := Lib.hid (E7.out.below hb9)
  replace E8 := Lib.hid (E8.out.below hb9)
  clear ho hb9
  rw [hiB_len] at E9
  rw [hiB_len bn 4]
  go_wp2_with fail
  refine (high4_any pn _ (by omega)).mono ?_
  unfold LaidP
  rintro e w10 ⟨v, rfl, ho, hb9⟩
  obtain ⟨a5, a5c, rfl, -, -, -, -⟩ := ho.form
  have E10 := Lib.hid ho.isB
  have G10 : Hid (Below w5.heap.size w5 w10) := Lib.hid (bel_call G9.out hb9)
  replace E6 := Lib.hid (E6.out.below hb9)
  replace E7 := Lib.hid (E7.out.below hb9)
  replace E8 := Lib.hid (E8.out.below hb9)
  replace E9 := Lib.hid (E9.out.below hb9)
  clear ho hb9
  rw [hiB_len] at E10
  rw [hiB_len pn 4]
  have HBB : Hid (IsBB ((w10.alloc (.cells #[.int .u8 67, .int .u8 79, .int .u8 82, .int .u8 77] 5 (4, 5))).alloc (.cells #[.slice a1 8 a1c, .slice a2 8 a2c, .slice a3 8 a3c, .slice a4 4 a4c, .slice a5 4 a5c, .slice (some ⟨w10.heap.size, 0, none⟩) 4 4] 25)) (.slice (some ⟨w10.heap.size + 1, 0, none⟩) 6 6) [hiB O.length 8, hiB O1.length 8, hiB cnt 8, hiB bn 4, hiB pn 4, [67, 79, 82, 77]]) := Lib.hid (by
    have h9 := isBB_own (ls := [hiB O.length 8, hiB O1.length 8, hiB cnt 8, hiB bn 4, hiB pn 4, [67, 79, 82, 77]]) (base := (w10.alloc (.cells #[.int .u8 67, .int .u8 79, .int .u8 82, .int .u8 77] 5 (4, 5))).heap.size) (vs := (#[.slice a1 8 a1c, .slice a2 8 a2c, .slice a3 8 a3c, .slice a4 4 a4c, .slice a5 4 a5c, .slice (some ⟨w10.heap.size, 0, none⟩) 4 4] : Array Value).toList) (World.ownsRow_lit (w10.alloc (.cells #[.int .u8 67, .int .u8 79, .int .u8 82, .int .u8 77] 5 (4, 5))) #[.slice a1 8 a1c, .slice a2 8 a2c, .slice a3 8 a3c, .slice a4 4 a4c, .slice a5 4 a5c, .slice (some ⟨w10.heap.size, 0, none⟩) 4 4] 6 (Nat.le_refl _) (by simp [maxLen]) (by simp)) ⟨(E6.out.alloc _).alloc _, (E7.out.alloc _).alloc _, (E8.out.alloc _).alloc _, (E9.out.alloc _).alloc _, (E10.out.alloc _).alloc _, (corm2 w10).alloc _, trivial⟩
    have h10 : (w10.alloc (.cells #[.int .u8 67, .int .u8 79, .int .u8 82, .int .u8 77] 5 (4, 5))).heap.size = w10.heap.size + 1 := by simp
    rw [h10] at h9
    exact h9)
  have G12 : Hid (Below w5.heap.size w5 ((w10.alloc (.cells #[.int .u8 67, .int .u8 79, .int .u8 82, .int .u8 77] 5 (4, 5))).alloc (.cells #[.slice a1 8 a1c, .slice a2 8 a2c, .slice a3 8 a3c, .slice a4 4 a4c, .slice a5 4 a5c, .slice (some ⟨w10.heap.size, 0, none⟩) 4 4] 25))) := Lib.hid (bel_alloc (bel_alloc G10.out _) _)
  have HCT := Lib.hid (concat_any _ _ _ HBB.out (by unfold catLen; simp [hiB_len]))
  unfold CatPost at HCT
  rw [foot_flat] at HCT
  obtain ⟨T, hT⟩ : ∃ T, footE O O1 cnt bn pn = T := ⟨_, rfl⟩
  have HT := Lib.hid hT
  have HTL : Hid (T.length = 36) := Lib.hid (by rw [← hT, footE_len])
  have HTR : Hid (Rng T) := Lib.hid (by rw [← hT]; exact footE_rng _ _ _ _ _)
  rw [hT, HTL.out] at HCT
  clear hT
  have kc9 := fun (w : World) (C : Array Value) (n c : Nat) => Lib.run_convert_bytes_const (P := Try.prog) w 25 5 C n c Try.underlying25 Try.underlying5
  go_wp2_with fail
  clear kc9
  refine HCT.out.mono ?_
  rintro e w13 ⟨v13, rfl, ho, hb9⟩
  obtain ⟨t13, tc13, rfl, -, -, -, -⟩ := own_form ho
  have G13 : Hid (Below w5.heap.size w5 w13) := Lib.hid (bel_call G12.out hb9)
  have O13 : Hid (w13.ownsRow w5.heap.size 5 1 (.slice t13 36 tc13) 36 (T.map (Value.int .u8))) := Lib.hid (own_mono ho G12.out.size)
  clear ho hb9 HCT
  have HSM := Lib.hid (sum_any _ T w13 (IsB.of_own O13.out HTR.out))
  go_wp2_with fail
  refine HSM.out.mono ?_
  rintro e w14 ⟨rfl, rfl⟩
  have hc : 0 ≤ sumF T ∧ sumF T ≤ 4294967295 := bits_u32_rng _ _ _
  obtain ⟨c, hcE⟩ : ∃ c, sumF T = c := ⟨_, rfl⟩
  rw [hcE] at hc ⊢
  have HCE := Lib.hid hcE
  clear hcE HSM
  have HN4 : Hid (IsB (w13.alloc (.cells #[.int .u8 (c % 256), .int .u8 (c / 256 % 256), .int .u8 (c / 65536 % 256), .int .u8 (c / 16777216)] 5)) (.slice (some ⟨w13.heap.size, 0, none⟩) 4 4) (le4 c)) := Lib.hid (by
    have h9 := IsB.of_own (e := 5) (l := le4 c) (base := w13.heap.size) (n := 4) (World.ownsRow_lit w13 #[.int .u8 (c % 256), .int .u8 (c / 256 % 256), .int .u8 (c / 65536 % 256), .int .u8 (c / 16777216 % 256)] 4 (Nat.le_refl _) (by simp [maxLen]) (by simp)) (le4_rng c)
    have e9 : c / 16777216 % 256 = c / 16777216 := by omega
    rw [e9] at h9
    exact h9)
  obtain ⟨U, hU⟩ : ∃ U, T ++ le4 c = U := ⟨_, rfl⟩
  have HUL : Hid (U.length = 40) := Lib.hid (by rw [← hU, List.length_append, HTL.out]; rfl)
  have HUR : Hid (Rng U) := Lib.hid (by rw [← hU]; exact HTR.out.append (le4_rng _))
  have HU := Lib.hid hU
  clear hU
  have HTBE : Hid (TB = O2 ++ U) := Lib.hid (by rw [← HTB.out, HE1.out, HIE.out, HE2.out, HT.out, HCE.out, HU.out])
  obtain ⟨M, hM⟩ : ∃ M, O2.length + 40 = M := ⟨_, rfl⟩
  have HM := Lib.hid hM
  clear hM
  have HTBL : Hid (TB.length = M) := Lib.hid (by rw [HTBE.out, List.length_append, HUL.out]; exact HM.out)
  have HIN : Hid (¬ 2097152 < (numN nb ++ J).length) := Lib.hid (by rw [HIE.out]; exact hil)
  by_cases hL : 4194304 < M
  · have q2 : (4194304 : Int) < (M : Int) := by omega
    go_wp2_with first
      | (at_builtin; refine wpList_append_bytes (w := w13.alloc (.cells #[.int .u8 (c % 256), .int .u8 (c / 256 % 256), .int .u8 (c / 65536 % 256), .int .u8 (c / 16777216)] 5)) (base := w5.heap.size) (.tmp 71) (.tmp 83) _ rfl rfl i0 _ Try.underlying25 HI.out HZ0.out HZ1.out HZ2.out rfl _ T (le4 c) rfl rfl (O13.out.alloc _) HN4.out (by simp [le4]) (by have := G13.out.size; simp; omega) ?_; intro v15 w15 ho hb9; have O15 : Hid (w15.ownsRow w5.heap.size 5 1 v15 40 (U.map (Value.int .u8))) := Lib.hid (by rw [← HU.out]; simpa [le4] using ho); have G15 : Hid (Below w5.heap.size w5 w15) := Lib.hid ((bel_alloc G13.out _).trans hb9); obtain ⟨t15, tc15, rfl, -, -, -, -⟩ := own_form O15.out; have I15 := Lib.hid (IsB.of_own O15.out HUR.out); have H15 := Lib.hid (H5.out.below G15.out); have B15 : Hid (Below base w w15) := Lib.hid (B5.out.trans (G15.out.mono (Nat.le_trans H5.out.bw (Nat.le_of_lt H5.out.lt)))); have d0 : w15.cell? ⟨wb, 0, none⟩ = some (.slice o5 O2.length oc5) := H15.out.c0; clear ho hb9)
      | (at_builtin; refine wpList_append_bytes' (w := w15) (base := base) (.tmp 89) (.tmp 90) _ rfl rfl i0 _ Try.underlying25 HI.out HZ0.out HZ1.out HZ2.out rfl _ O2 U rfl rfl H15.out.oo I15.out (by rw [HUL.out]; omega) (Nat.le_trans H15.out.bw (Nat.le_of_lt H15.out.lt)) ?_; intro v16 w16 ho hg hk; rw [HUL.out, HM.out] at ho; obtain ⟨t16, tc16, rfl, f1, f2, -, -⟩ := own_form ho; have O16 : Hid (w16.ownsRow base 5 1 (.slice t16 M tc16) (O2 ++ U).length ((O2 ++ U).map (Value.int .u8))) := Lib.hid (by rw [List.length_append, HUL.out, HM.out]; exact ho); have G16 : Hid (Chg (fun b => (Value.slice o5 O2.length oc5).ownBlock = some b) w15 w16) := Lib.hid (Chg.of_grown hg (fun b _ e => e)); have K16 : Hid ((Value.slice t16 M tc16).ownBlock = (Value.slice o5 O2.length oc5).ownBlock ∨ ∃ b, (Value.slice t16 M tc16).ownBlock = some b ∧ w15.heap.size ≤ b) := Lib.hid (by rcases hk with h | h; exact .inl h; exact .inr ⟨_, h, Nat.le_refl _⟩); have H16 := Lib.hid (H15.out.set0 O16.out (H15.out.ro.append HUR.out) G16.out K16.out); have d0 : w16.cell? ⟨wb, 0, none⟩ = some (.slice o5 O2.length oc5) := (G16.out.cell H15.out.lt (fun e => H15.out.neO wb e rfl)).trans d0; have z0 : w16.frozen? ⟨wb, 0, none⟩ = false := (G16.out.frozen H15.out.lt (fun e => H15.out.neO wb e rfl)).trans (H15.out.fz 0); have B16 : Hid (Below base w (w16.setCell ⟨wb, 0, none⟩ (.slice t16 M tc16))) := Lib.hid (B15.out.trans ((G16.out.below (B := base) (Nat.le_trans H15.out.bw (Nat.le_of_lt H15.out.lt)) (fun b hb e => by have := (H15.out.oo.lt b e).1; omega)).setCell (show base ≤ wb from H15.out.bw) _)); have F1 := Lib.hid f1; have F2 := Lib.hid f2; clear ho hg hk f1 f2)
    have HC9 : Hid (2097152 < (numN nb ++ J).length ∨ 4194304 < TB.length) := Lib.hid (.inr (by rw [HTBL.out]; exact hL))
    refine bodyPost_ret (v := .tuple #[.slice none 0 0, .int .i64 43]) (by first | (simp [results, Try.results37, go_sem]; done) | (simp [results, Try.results37, go_sem]; go_simp)) rfl ⟨_, by rw [if_pos HC9.out], by rw [if_pos HC9.out]; exact ownS_nil, B16.out⟩
  · have q2 : (M : Int) ≤ 4194304 := by omega
    have q3 : ¬ (4194304 : Int) < (M : Int) := by omega
    have HLL := Lib.hid hL
    clear hL
    go_upto_region 13 with first
      | (at_builtin; refine wpList_append_bytes (w := w13.alloc (.cells #[.int .u8 (c % 256), .int .u8 (c / 256 % 256), .int .u8 (c / 65536 % 256), .int .u8 (c / 16777216)] 5)) (base := w5.heap.size) (.tmp 71) (.tmp 83) _ rfl rfl i0 _ Try.underlying25 HI.out HZ0.out HZ1.out HZ2.out rfl _ T (le4 c) rfl rfl (O13.out.alloc _) HN4.out (by simp [le4]) (by have := G13.out.size; simp; omega) ?_; intro v15 w15 ho hb9; have O15 : Hid (w15.ownsRow w5.heap.size 5 1 v15 40 (U.map (Value.int .u8))) := Lib.hid (by rw [← HU.out]; simpa [le4] using ho); have G15 : Hid (Below w5.heap.size w5 w15) := Lib.hid ((bel_alloc G13.out _).trans hb9); obtain ⟨t15, tc15, rfl, -, -, -, -⟩ := own_form O15.out; have I15 := Lib.hid (IsB.of_own O15.out HUR.out); have H15 := Lib.hid (H5.out.below G15.out); have B15 : Hid (Below base w w15) := Lib.hid (B5.out.trans (G15.out.mono (Nat.le_trans H5.out.bw (Nat.le_of_lt H5.out.lt)))); have d0 : w15.cell? ⟨wb, 0, none⟩ = some (.slice o5 O2.length oc5) := H15.out.c0; clear ho hb9)
      | (at_builtin; refine wpList_append_bytes' (w := w15) (base := base) (.tmp 89) (.tmp 90) _ rfl rfl i0 _ Try.underlying25 HI.out HZ0.out HZ1.out HZ2.out rfl _ O2 U rfl rfl H15.out.oo I15.out (by rw [HUL.out]; omega) (Nat.le_trans H15.out.bw (Nat.le_of_lt H15.out.lt)) ?_; intro v16 w16 ho hg hk; rw [HUL.out, HM.out] at ho; obtain ⟨t16, tc16, rfl, f1, f2, -, -⟩ := own_form ho; have O16 : Hid (w16.ownsRow base 5 1 (.slice t16 M tc16) (O2 ++ U).length ((O2 ++ U).map (Value.int .u8))) := Lib.hid (by rw [List.length_append, HUL.out, HM.out]; exact ho); have G16 : Hid (Chg (fun b => (Value.slice o5 O2.length oc5).ownBlock = some b) w15 w16) := Lib.hid (Chg.of_grown hg (fun b _ e => e)); have K16 : Hid ((Value.slice t16 M tc16).ownBlock = (Value.slice o5 O2.length oc5).ownBlock ∨ ∃ b, (Value.slice t16 M tc16).ownBlock = some b ∧ w15.heap.size ≤ b) := Lib.hid (by rcases hk with h | h; exact .inl h; exact .inr ⟨_, h, Nat.le_refl _⟩); have H16 := Lib.hid (H15.out.set0 O16.out (H15.out.ro.append HUR.out) G16.out K16.out); have d0 : w16.cell? ⟨wb, 0, none⟩ = some (.slice o5 O2.length oc5) := (G16.out.cell H15.out.lt (fun e => H15.out.neO wb e rfl)).trans d0; have z0 : w16.frozen? ⟨wb, 0, none⟩ = false := (G16.out.frozen H15.out.lt (fun e => H15.out.neO wb e rfl)).trans (H15.out.fz 0); have B16 : Hid (Below base w (w16.setCell ⟨wb, 0, none⟩ (.slice t16 M tc16))) := Lib.hid (B15.out.trans ((G16.out.below (B := base) (Nat.le_trans H15.out.bw (Nat.le_of_lt H15.out.lt)) (fun b hb e => by have := (H15.out.oo.lt b e).1; omega)).setCell (show base ≤ wb from H15.out.bw) _)); have F1 := Lib.hid f1; have F2 := Lib.hid f2; clear ho hg hk f1 f2)
    generalize hW : w16.setCell ⟨wb, 0, none⟩ (.slice t16 M tc16) = W at H16 B16 ⊢
    have e0 := H16.out.c0
    clear d0 z0 hW
    go_wp2_with fail
    refine (clip_any _ _ _ _ F1.out F2.out).mono ?_
    rintro e w17 ⟨rfl, rfl⟩
    go_wp2_with fail
    have HC9 : Hid (¬ (2097152 < (numN nb ++ J).length ∨ 4194304 < TB.length)) := Lib.hid (not_or.2 ⟨HIN.out, by rw [HTBL.out]; exact HLL.out⟩)
    refine bodyPost_ret (v := .tuple #[.slice t16 M M, .int .i64 0]) (by first | (simp [results, Try.results37, go_sem]; done) | (simp [results, Try.results37, go_sem]; go_simp)) rfl ⟨_, by rw [if_neg HC9.out], by rw [if_neg HC9.out, HTBE.out]; exact (OwnS.of_own H16.out.oo (by rw [← HTBE.out] at *; exact H16.out.ro)).clip, B16.out⟩
end Ss
end Go.Proofs.Ytmojbamloanleaa
