/- The walks of CodecSums, CodecCompares, CodecNumbers. -/
import Derived.Test.YtlolgiphppbcmaaCodecShown
namespace Go.Proofs.Ytlolgiphppbcmaa
open Go.RowKit
namespace Codec
theorem bel_row {w0 w w' : World} {row : Option Nat} (h : Below w0.heap.size w0 w) (hg : w.grownBy w' row) (hr : ∀ k, row = some k → w0.heap.size ≤ k) : Below w0.heap.size w0 w' :=
  h.trans ((Below.refl _ _).grown hg h.size hr)
set_option maxHeartbeats 400000 in
theorem sums_walk (v : Value) (l : List Int) (w : World) (h : IsB w v l) : Calls Try.prog 4 #[v] w (Ret (.bool true) w) := by
  have HB := Lib.hid h
  clear h
  go_enter Try.func4, Try.ntmps4
  go_wp2_with fail
  refine (shown_any _).mono ?_
  rintro e w1 ⟨rfl, g1⟩
  have G1 := Lib.hid g1
  have HB1 := Lib.hid (HB.out.below g1)
  clear g1
  go_wp2_with fail
  refine (rSum_any v l _ HB1.out).mono ?_
  rintro e w2 ⟨rfl, rfl⟩
  go_wp2_with fail
  refine (sum_any v l _ HB1.out).mono ?_
  rintro e w2 ⟨rfl, rfl⟩
  go_wp2_with fail
  go_ret
  exact ⟨rfl, G1.out⟩
set_option maxHeartbeats 400000 in
theorem compares_walk (v u : Value) (l m : List Int) (w : World) (h : IsB w v l) (k : IsB w u m) : Calls Try.prog 5 #[v, u] w (Ret (.bool true) w) := by
  have HB := Lib.hid h
  have HC := Lib.hid k
  have hr := cmpB_rng l m
  have hsw := cmpB_swap l m
  have HSW := Lib.hid hsw
  clear h k hsw
  go_enter Try.func5, Try.ntmps5
  go_wp2_with fail
  refine (shown_any _).mono ?_
  rintro e w1 ⟨rfl, g1⟩
  have G1 := Lib.hid g1
  have HB1 := Lib.hid (HB.out.below g1)
  have HC1 := Lib.hid (HC.out.below g1)
  clear g1
  go_wp2_with fail
  refine (ccompare_any v u l m _ HB1.out HC1.out).mono ?_
  rintro e w2 ⟨rfl, rfl⟩
  go_wp2_with fail
  refine (ccompare_any u v m l _ HC1.out HB1.out).mono ?_
  rw [HSW.out]
  rintro e w2 ⟨rfl, rfl⟩
  go_wp2_with fail
  refine (rCompare_any v u l m _ HB1.out HC1.out).mono ?_
  rintro e w2 ⟨rfl, g2⟩
  have G2 := Lib.hid (bel_call G1.out g2)
  clear g2
  go_wp2_with fail
  go_ret
  exact ⟨rfl, G2.out⟩
set_option maxRecDepth 100000 in
set_option maxHeartbeats 1000000 in
theorem numbers_walk (n : Nat) (v : Value) (l : List Int) (w : World) (h : IsB w v l) (hn : n < 18446744073709551616) (hl : l.length ≤ 140737488351232) : Calls Try.prog 3 #[.int .u64 n, v] w (Ret (.bool true) w) := by
  have HB := Lib.hid h
  have h10 := numN_len10 hn
  obtain ⟨i0, hi0, hz0, hz1, hz2⟩ := info_parts infoU8
  have HI := Lib.hid hi0; have HZ0 := Lib.hid hz0; have HZ1 := Lib.hid hz1; have HZ2 := Lib.hid hz2
  clear hi0 hz0 hz1 hz2 h
  go_enter Try.func3, Try.ntmps3
  go_wp2_with fail
  refine (shown_any _).mono ?_
  rintro e w1 ⟨rfl, g1⟩
  have G1 := Lib.hid g1
  clear g1
  go_wp2_with fail
  refine (rNumber_any n _ hn).mono ?_
  unfold RNumPost
  rintro e w2 ⟨wv, rfl, how, g2⟩
  have HW := Lib.hid (OwnS.of_own how (numN_rng n))
  have G2 := Lib.hid (bel_call G1.out g2)
  have z2 := g2.size
  obtain ⟨wo, wcap, rfl, _, _, hq1, hq2⟩ := own_form how
  clear how g2 hq1 hq2
  go_wp2_with fail
  refine (number_any n _ hn).mono ?_
  unfold NumPost
  rintro e w3 ⟨bv, rfl, hob, g3⟩
  have HN := Lib.hid hob
  have HW3 := Lib.hid (HW.out.below g3)
  have G3 := Lib.hid (bel_call G2.out g3)
  have z3 := g3.size
  have c1 := HN.out.isB.conv Try.underlying23 Try.underlying5 Try.underlying9
  have c2 := HW3.out.isB.conv Try.underlying23 Try.underlying5 Try.underlying9
  obtain ⟨bo, bcap, rfl, _, _, hq1, hq2⟩ := hob.form
  clear hob g3 hq1 hq2
  go_wp2_with (first
    | (at_builtin; refine wpList_append_bytes (base := w3.heap.size) (.tmp 27) (.tmp 28) _ rfl rfl i0 _ Try.underlying23 HI.out HZ0.out HZ1.out HZ2.out rfl _ [] (numN n) rfl rfl (World.ownsRow_lit w3 #[] 0 (Nat.le_refl _) (by simp [maxLen]) (by simp)) (HN.out.isB.alloc _) (by omega) (by simp) ?_; intro v4 w4 hown4 hb4; simp only [Nat.zero_add, List.nil_append] at hown4; have HO4 := Lib.hid hown4; have HB4 := Lib.hid (((Below.refl _ w3).alloc (Nat.le_refl _) _).trans hb4); clear hown4 hb4)
    | (at_builtin; refine wpList_append_bytes (w := w4) (base := w3.heap.size) (.tmp 29) (.tmp 30) _ rfl rfl i0 _ Try.underlying23 HI.out HZ0.out HZ1.out HZ2.out rfl v (numN n) l rfl rfl HO4.out (HB.out.below (bel_call G3.out HB4.out)) (by omega) HB4.out.size ?_; intro v5 w5 hown5 hb5; have HO5 := Lib.hid hown5; have HB5 := Lib.hid (HB4.out.trans hb5); clear hown5 hb5))
  have HT := Lib.hid (takeN_num hn l)
  refine (takeNumber_any v5 (numN n ++ l) _ (IsB.of_own HO5.out ((numN_rng n).append HB.out.rng))).mono ?_
  rw [HT.out]
  rintro e w6 ⟨rfl, rfl⟩
  have HN5 := Lib.hid (HN.out.below HB5.out)
  have HW5 := Lib.hid (HW3.out.below HB5.out)
  have G5 := Lib.hid (bel_call G3.out HB5.out)
  clear c1 c2
  go_wp2_with fail
  refine (spoil_any _ _ (numN n) _ HN5.out (by omega)).mono ?_
  unfold SpoilPost
  rintro e w6 ⟨rfl, g6⟩
  have hne : (Value.slice wo (numN n).length wcap).ownBlock = none ∨ (Value.slice wo (numN n).length wcap).ownBlock ≠ (Value.slice bo (numN n).length bcap).ownBlock := by
    rcases wo with _ | a
    · exact .inl rfl
    · refine .inr fun he => ?_
      have h1 := HW.out.lt a.block rfl
      have h2 := HN.out.lt a.block he.symm
      omega
  have HW6 := Lib.hid (HW5.out.kept g6 hne)
  have G6 := Lib.hid (bel_row G5.out g6 (fun k hk => by have := HN.out.lt k hk; have := G2.out.size; omega))
  have z6 := g6.size
  clear g6 hne
  go_wp2_with fail
  refine (number_any n _ hn).mono ?_
  unfold NumPost
  rintro e w7 ⟨cv, rfl, hoc, g7⟩
  have HC7 := Lib.hid hoc
  have HW7 := Lib.hid (HW6.out.below g7)
  have G7 := Lib.hid (bel_call G6.out g7)
  clear hoc g7
  have c1 := HC7.out.isB.conv Try.underlying23 Try.underlying5 Try.underlying9
  have c2 := HW7.out.isB.conv Try.underlying23 Try.underlying5 Try.underlying9
  go_wp2_with fail
  go_ret
  exact ⟨rfl, G7.out⟩
theorem numbers_walk' (a : Int) (ha : 0 ≤ a ∧ a ≤ 18446744073709551615) (v : Value) (l : List Int) (w : World) (h : IsB w v l) (hl : l.length ≤ 140737488351232) : Calls Try.prog 3 #[.int .u64 a, v] w (Ret (.bool true) w) := by
  obtain ⟨n, rfl⟩ := Int.eq_ofNat_of_zero_le ha.1
  exact numbers_walk n v l w h (by omega) hl
end Codec
end Go.Proofs.Ytlolgiphppbcmaa
