/- The walk of CodecOrder. -/
import Derived.Test.YtlolgiphppbcmaaDoorCodecOrd
import Derived.Test.YtlolgiphppbcmaaDoorApp
import Derived.Test.YtlolgiphppbcmaaDoorStep
namespace Go.Proofs.YtlolgiphppbcmaaDoor
open Go.RowKit
namespace Codec
theorem blocks_apart {v u : Value} {a b c d : Nat} (h : ∀ k, v.ownBlock = some k → a ≤ k ∧ k < b) (k : ∀ k, u.ownBlock = some k → c ≤ k ∧ k < d) (hd : b ≤ c ∨ d ≤ a) : v.ownBlock = none ∨ v.ownBlock ≠ u.ownBlock := by
  cases hv : v.ownBlock with
  | none => exact .inl rfl
  | some i =>
    refine .inr fun he => ?_
    have h1 := h i hv
    have h2 := k i he.symm
    omega
theorem fresh_or {v v' : Value} {a b s : Nat} (hb : v'.ownBlock = v.ownBlock ∨ v'.ownBlock = some s) (h : ∀ k, v.ownBlock = some k → a ≤ k ∧ k < b) : ∀ k, v'.ownBlock = some k → (a ≤ k ∧ k < b) ∨ k = s := fun k hk => by
  rcases hb with e | e
  · exact .inl (h k (e ▸ hk))
  · rw [e] at hk; exact .inr (Option.some.inj hk).symm
theorem blocks_apart' {v u : Value} {a b c d s : Nat} (h : ∀ k, v.ownBlock = some k → (a ≤ k ∧ k < b) ∨ k = s) (k : ∀ k, u.ownBlock = some k → c ≤ k ∧ k < d) (hd : b ≤ c ∨ d ≤ a) (hs : d ≤ s) : v.ownBlock = none ∨ v.ownBlock ≠ u.ownBlock := by
  cases hv : v.ownBlock with
  | none => exact .inl rfl
  | some i =>
    refine .inr fun he => ?_
    have h1 := h i hv
    have h2 := k i he.symm
    omega
set_option maxRecDepth 100000 in
set_option maxHeartbeats 8000000 in
theorem order_ee (x y : Int) (hx : -9223372036854775808 ≤ x ∧ x ≤ 9223372036854775807) (hy : -9223372036854775808 ≤ y ∧ y ≤ 9223372036854775807) (sv tv r0v r1v : Value) (s t r0 r1 : List Int) (w : World)
    (hs : IsB w sv s) (ht : IsB w tv t) (h0 : IsB w r0v r0) (h1 : IsB w r1v r1) (ls : s.length ≤ 1048576) (lt : t.length ≤ 1048576) (l0 : r0.length ≤ 1048576) (l1 : r1.length ≤ 1048576)
    (hxy : x = y) (hd : cmpB s t = 0) :
    Calls Tryd.prog 3 #[.agg #[.int .i64 x, .int .i64 y], .agg #[sv, tv], .agg #[r0v, r1v]] w (Ret (.bool true) w) := by
  obtain ⟨so, scap, rfl, -, -, -⟩ := hs.form
  obtain ⟨to, tcap, rfl, -, -, -⟩ := ht.form
  obtain ⟨r0o, r0cap, rfl, -, -, -⟩ := h0.form
  obtain ⟨r1o, r1cap, rfl, -, -, -⟩ := h1.form
  obtain ⟨r0v, hr0v⟩ : ∃ v, Value.slice r0o r0.length r0cap = v := ⟨_, rfl⟩
  obtain ⟨r1v, hr1v⟩ : ∃ v, Value.slice r1o r1.length r1cap = v := ⟨_, rfl⟩
  rw [hr0v] at h0 ⊢
  rw [hr1v] at h1 ⊢
  clear hr0v hr1v
  obtain ⟨X, hX⟩ : ∃ X, keyT s = X := ⟨_, rfl⟩
  obtain ⟨Y, hY⟩ : ∃ Y, keyT t = Y := ⟨_, rfl⟩
  have hXl : X.length ≤ 2097154 := by rw [← hX]; unfold keyT; rw [List.length_append, repl_len]; have : s.count 0 ≤ s.length := List.count_le_length; simp; omega
  have hYl : Y.length ≤ 2097154 := by rw [← hY]; unfold keyT; rw [List.length_append, repl_len]; have : t.count 0 ≤ t.length := List.count_le_length; simp; omega
  obtain ⟨c, hc⟩ : ∃ c, cmpB (keyL x) (keyL y) = c := ⟨_, rfl⟩
  obtain ⟨d, hdd⟩ : ∃ d, cmpB s t = d := ⟨_, rfl⟩
  have hcv := cmpB_keyL hx hy
  rw [hc] at hcv
  have hc0 : c = 0 := by rw [hcv, if_neg (by omega), if_neg (by omega)]
  subst hc0
  have q1 : decide (x < y) = false := decide_eq_false (by omega)
  have q2 : (x == y) = true := beq_iff_eq.2 hxy
  have hkt : cmpB X Y = d := by rw [← hX, ← hY, cmpB_keyT s t hs.rng ht.rng]; exact hdd
  rw [hdd] at hd
  subst hd
  have q3 : (x != y) = false := by simp [hxy]
  clear hxy hcv
  have HX := Lib.hid hX
  have HY := Lib.hid hY
  have HC := Lib.hid hc
  have HKT := Lib.hid hkt
  have HDD := Lib.hid hdd
  have RA := Lib.hid (keyL_rng hx)
  have RB := Lib.hid (keyL_rng hy)
  have RP := Lib.hid (show Rng X by rw [← hX]; exact keyT_rng hs.rng)
  have RQ := Lib.hid (show Rng Y by rw [← hY]; exact keyT_rng ht.rng)
  have HS0 := Lib.hid hs; have HT0 := Lib.hid ht; have H00 := Lib.hid h0; have H10 := Lib.hid h1
  obtain ⟨i0, hi0, hz0, hz1, hz2⟩ := info_parts infoU8
  have HI := Lib.hid hi0; have HZ0 := Lib.hid hz0; have HZ1 := Lib.hid hz1; have HZ2 := Lib.hid hz2
  clear hi0 hz0 hz1 hz2 hs ht h0 h1 hX hY hc hkt hdd
  go_enter Tryd.func3, Tryd.ntmps3
  go_wp2_with fail
  refine (shown_any _).mono ?_
  rintro e w1 ⟨rfl, g1⟩
  replace k0 : w1.cell? ⟨w.heap.size, 0, none⟩ = some (.int .i64 x) := (g1.cell (p := ⟨w.heap.size, 0, none⟩) (by simp <;> omega)).trans (by go_simp); replace k1 : w1.cell? ⟨w.heap.size, 1, none⟩ = some (.int .i64 y) := (g1.cell (p := ⟨w.heap.size, 1, none⟩) (by simp <;> omega)).trans (by go_simp); replace k2 : w1.cell? ⟨w.heap.size + 1, 0, none⟩ = some (.slice so s.length scap) := (g1.cell (p := ⟨w.heap.size + 1, 0, none⟩) (by simp <;> omega)).trans (by go_simp); replace k3 : w1.cell? ⟨w.heap.size + 1, 1, none⟩ = some (.slice to t.length tcap) := (g1.cell (p := ⟨w.heap.size + 1, 1, none⟩) (by simp <;> omega)).trans (by go_simp); replace k4 : w1.cell? ⟨w.heap.size + 2, 0, none⟩ = some (r0v) := (g1.cell (p := ⟨w.heap.size + 2, 0, none⟩) (by simp <;> omega)).trans (by go_simp); replace k5 : w1.cell? ⟨w.heap.size + 2, 1, none⟩ = some (r1v) := (g1.cell (p := ⟨w.heap.size + 2, 1, none⟩) (by simp <;> omega)).trans (by go_simp)
  have hb3 : w.heap.size + 2 < w1.heap.size := by have := g1.size; simp at this; omega
  have Gw1 := Lib.hid (bel_call (bel_alloc (bel_alloc (bel_alloc (Below.refl _ w) _) _) _) g1)
  have HS := Lib.hid ((((HS0.out.alloc _).alloc _).alloc _).below g1)
  have HT := Lib.hid ((((HT0.out.alloc _).alloc _).alloc _).below g1)
  have HR0 := Lib.hid ((((H00.out.alloc _).alloc _).alloc _).below g1)
  have HR1 := Lib.hid ((((H10.out.alloc _).alloc _).alloc _).below g1)
  have C0 := Lib.hid k4
  have C1 := Lib.hid k5
  clear g1
  go_wp2_with fail
  refine (keyInt_any x w1 hx).mono ?_
  unfold KeyPost
  rintro e w2 ⟨av, rfl, hav, g2⟩
  have OAw2 := Lib.hid hav
  have G2 := Lib.hid g2
  have bA : ∀ k, av.ownBlock = some k → w1.heap.size ≤ k ∧ k < w2.heap.size := fun k hk => hav.lt k hk
  have z2 := g2.size
  obtain ⟨ao, acap, rfl, -, -, -, -⟩ := own_form hav
  have BA := Lib.hid bA
  clear hav g2 bA k0 k1 k2 k3 k4 k5
  go_wp2_with fail
  refine (keyInt_any y w2 hy).mono ?_
  unfold KeyPost
  rintro e w3 ⟨bv, rfl, hbv, g3⟩
  have OBw3 := Lib.hid hbv
  have OAw3 := Lib.hid (own_below OAw2.out g3)
  have G3 := Lib.hid (bel_call G2.out g3)
  have bB : ∀ k, bv.ownBlock = some k → w2.heap.size ≤ k ∧ k < w3.heap.size := fun k hk => hbv.lt k hk
  have z3 := g3.size
  obtain ⟨bo, bcap, rfl, -, -, -, -⟩ := own_form hbv
  have BB := Lib.hid bB
  clear hbv g3 bB
  go_wp2_with fail
  refine (ccompare_any _ _ (keyL x) (keyL y) w3 (IsB.of_own OAw3.out RA.out) (IsB.of_own OBw3.out RB.out)).mono ?_
  rw [HC.out]
  rintro e w' ⟨rfl, hw'⟩
  subst hw'
  go_wp2_with fail
  refine (keyText_any _ s w3 (HS.out.below G3.out) (by omega)).mono ?_
  unfold KeyTPost
  rw [HX.out]
  rintro e w4 ⟨pv, rfl, hpv, g4⟩
  have OPw4 := Lib.hid hpv
  have OAw4 := Lib.hid (own_below OAw3.out g4)
  have OBw4 := Lib.hid (own_below OBw3.out g4)
  have G4 := Lib.hid (bel_call G3.out g4)
  have bP : ∀ k, pv.ownBlock = some k → w3.heap.size ≤ k ∧ k < w4.heap.size := fun k hk => hpv.lt k hk
  have z4 := g4.size
  obtain ⟨po, pcap, rfl, -, -, -, -⟩ := own_form hpv
  have BP := Lib.hid bP
  clear hpv g4 bP
  go_wp2_with fail
  refine (keyText_any _ t w4 (HT.out.below G4.out) (by omega)).mono ?_
  unfold KeyTPost
  rw [HY.out]
  rintro e w5 ⟨qv, rfl, hqv, g5⟩
  have OQw5 := Lib.hid hqv
  have OPw5 := Lib.hid (own_below OPw4.out g5)
  have OAw5 := Lib.hid (own_below OAw4.out g5)
  have OBw5 := Lib.hid (own_below OBw4.out g5)
  have G5 := Lib.hid (bel_call G4.out g5)
  have bQ : ∀ k, qv.ownBlock = some k → w4.heap.size ≤ k ∧ k < w5.heap.size := fun k hk => hqv.lt k hk
  have z5 := g5.size
  obtain ⟨qo, qcap, rfl, -, -, -, -⟩ := own_form hqv
  have BQ := Lib.hid bQ
  clear hqv g5 bQ
  go_wp2_with fail
  refine (ccompare_any _ _ X Y w5 (IsB.of_own OPw5.out RP.out) (IsB.of_own OQw5.out RQ.out)).mono ?_
  rw [HKT.out]
  rintro e w' ⟨rfl, hw'⟩
  subst hw'
  go_wp2_with fail
  refine (rCompare_any _ _ s t w5 (HS.out.below G5.out) (HT.out.below G5.out)).mono ?_
  rw [HDD.out]
  rintro e w6 ⟨rfl, g6⟩
  have Gw6 := Lib.hid (bel_call G5.out g6)
  have OAw6 := Lib.hid (own_below OAw5.out g6)
  have OBw6 := Lib.hid (own_below OBw5.out g6)
  have OPw6 := Lib.hid (own_below OPw5.out g6)
  have OQw6 := Lib.hid (own_below OQw5.out g6)
  have C0w6 := (Gw6.out.cell (p := ⟨w.heap.size + 2, 0, none⟩) hb3).trans C0.out
  have C1w6 := (Gw6.out.cell (p := ⟨w.heap.size + 2, 1, none⟩) hb3).trans C1.out
  have z6 := g6.size
  clear g6
  all_goals (
    go_wp2_with fail
    go_ret
    exact ⟨rfl, bel_call Gw1.out Gw6.out⟩)
set_option maxRecDepth 100000 in
set_option maxHeartbeats 8000000 in
theorem order_le (x y : Int) (hx : -9223372036854775808 ≤ x ∧ x ≤ 9223372036854775807) (hy : -9223372036854775808 ≤ y ∧ y ≤ 9223372036854775807) (sv tv r0v r1v : Value) (s t r0 r1 : List Int) (w : World)
    (hs : IsB w sv s) (ht : IsB w tv t) (h0 : IsB w r0v r0) (h1 : IsB w r1v r1) (ls : s.length ≤ 1048576) (lt : t.length ≤ 1048576) (l0 : r0.length ≤ 1048576) (l1 : r1.length ≤ 1048576)
    (hxy : x < y) (hd : cmpB s t = 0) :
    Calls Tryd.prog 3 #[.agg #[.int .i64 x, .int .i64 y], .agg #[sv, tv], .agg #[r0v, r1v]] w (Ret (.bool true) w) := by
  obtain ⟨so, scap, rfl, -, -, -⟩ := hs.form
  obtain ⟨to, tcap, rfl, -, -, -⟩ := ht.form
  obtain ⟨r0o, r0cap, rfl, -, -, -⟩ := h0.form
  obtain ⟨r1o, r1cap, rfl, -, -, -⟩ := h1.form
  obtain ⟨r0v, hr0v⟩ : ∃ v, Value.slice r0o r0.length r0cap = v := ⟨_, rfl⟩
  obtain ⟨r1v, hr1v⟩ : ∃ v, Value.slice r1o r1.length r1cap = v := ⟨_, rfl⟩
  rw [hr0v] at h0 ⊢
  rw [hr1v] at h1 ⊢
  clear hr0v hr1v
  obtain ⟨X, hX⟩ : ∃ X, keyT s = X := ⟨_, rfl⟩
  obtain ⟨Y, hY⟩ : ∃ Y, keyT t = Y := ⟨_, rfl⟩
  have hXl : X.length ≤ 2097154 := by rw [← hX]; unfold keyT; rw [List.length_append, repl_len]; have : s.count 0 ≤ s.length := List.count_le_length; simp; omega
  have hYl : Y.length ≤ 2097154 := by rw [← hY]; unfold keyT; rw [List.length_append, repl_len]; have : t.count 0 ≤ t.length := List.count_le_length; simp; omega
  obtain ⟨c, hc⟩ : ∃ c, cmpB (keyL x) (keyL y) = c := ⟨_, rfl⟩
  obtain ⟨d, hdd⟩ : ∃ d, cmpB s t = d := ⟨_, rfl⟩
  have hcv := cmpB_keyL hx hy
  rw [hc] at hcv
  have hc0 : c = -1 := by rw [hcv, if_pos hxy]
  subst hc0
  have q1 : decide (x < y) = true := decide_eq_true hxy
  have q2 : (x == y) = false := beq_eq_false_iff_ne.2 (by omega)
  have hkt : cmpB X Y = d := by rw [← hX, ← hY, cmpB_keyT s t hs.rng ht.rng]; exact hdd
  rw [hdd] at hd
  subst hd
  have he1 : cmpB (keyL x ++ r0) (keyL y ++ r1) = -1 := by rw [cmpB_app (l := keyL x) (m := keyL y) r0 r1 rfl (keyL_ne hx hy (by omega))]; exact hc
  have HE1 := Lib.hid he1
  have q3 : (x != y) = true := by simp; omega
  clear he1 hxy hcv
  have HX := Lib.hid hX
  have HY := Lib.hid hY
  have HC := Lib.hid hc
  have HKT := Lib.hid hkt
  have HDD := Lib.hid hdd
  have RA := Lib.hid (keyL_rng hx)
  have RB := Lib.hid (keyL_rng hy)
  have RP := Lib.hid (show Rng X by rw [← hX]; exact keyT_rng hs.rng)
  have RQ := Lib.hid (show Rng Y by rw [← hY]; exact keyT_rng ht.rng)
  have HS0 := Lib.hid hs; have HT0 := Lib.hid ht; have H00 := Lib.hid h0; have H10 := Lib.hid h1
  obtain ⟨i0, hi0, hz0, hz1, hz2⟩ := info_parts infoU8
  have HI := Lib.hid hi0; have HZ0 := Lib.hid hz0; have HZ1 := Lib.hid hz1; have HZ2 := Lib.hid hz2
  clear hi0 hz0 hz1 hz2 hs ht h0 h1 hX hY hc hkt hdd
  go_enter Tryd.func3, Tryd.ntmps3
  go_wp2_with fail
  refine (shown_any _).mono ?_
  rintro e w1 ⟨rfl, g1⟩
  replace k0 : w1.cell? ⟨w.heap.size, 0, none⟩ = some (.int .i64 x) := (g1.cell (p := ⟨w.heap.size, 0, none⟩) (by simp <;> omega)).trans (by go_simp); replace k1 : w1.cell? ⟨w.heap.size, 1, none⟩ = some (.int .i64 y) := (g1.cell (p := ⟨w.heap.size, 1, none⟩) (by simp <;> omega)).trans (by go_simp); replace k2 : w1.cell? ⟨w.heap.size + 1, 0, none⟩ = some (.slice so s.length scap) := (g1.cell (p := ⟨w.heap.size + 1, 0, none⟩) (by simp <;> omega)).trans (by go_simp); replace k3 : w1.cell? ⟨w.heap.size + 1, 1, none⟩ = some (.slice to t.length tcap) := (g1.cell (p := ⟨w.heap.size + 1, 1, none⟩) (by simp <;> omega)).trans (by go_simp); replace k4 : w1.cell? ⟨w.heap.size + 2, 0, none⟩ = some (r0v) := (g1.cell (p := ⟨w.heap.size + 2, 0, none⟩) (by simp <;> omega)).trans (by go_simp); replace k5 : w1.cell? ⟨w.heap.size + 2, 1, none⟩ = some (r1v) := (g1.cell (p := ⟨w.heap.size + 2, 1, none⟩) (by simp <;> omega)).trans (by go_simp)
  have hb3 : w.heap.size + 2 < w1.heap.size := by have := g1.size; simp at this; omega
  have Gw1 := Lib.hid (bel_call (bel_alloc (bel_alloc (bel_alloc (Below.refl _ w) _) _) _) g1)
  have HS := Lib.hid ((((HS0.out.alloc _).alloc _).alloc _).below g1)
  have HT := Lib.hid ((((HT0.out.alloc _).alloc _).alloc _).below g1)
  have HR0 := Lib.hid ((((H00.out.alloc _).alloc _).alloc _).below g1)
  have HR1 := Lib.hid ((((H10.out.alloc _).alloc _).alloc _).below g1)
  have C0 := Lib.hid k4
  have C1 := Lib.hid k5
  clear g1
  go_wp2_with fail
  refine (keyInt_any x w1 hx).mono ?_
  unfold KeyPost
  rintro e w2 ⟨av, rfl, hav, g2⟩
  have OAw2 := Lib.hid hav
  have G2 := Lib.hid g2
  have bA : ∀ k, av.ownBlock = some k → w1.heap.size ≤ k ∧ k < w2.heap.size := fun k hk => hav.lt k hk
  have z2 := g2.size
  obtain ⟨ao, acap, rfl, -, -, -, -⟩ := own_form hav
  have BA := Lib.hid bA
  clear hav g2 bA k0 k1 k2 k3 k4 k5
  go_wp2_with fail
  refine (keyInt_any y w2 hy).mono ?_
  unfold KeyPost
  rintro e w3 ⟨bv, rfl, hbv, g3⟩
  have OBw3 := Lib.hid hbv
  have OAw3 := Lib.hid (own_below OAw2.out g3)
  have G3 := Lib.hid (bel_call G2.out g3)
  have bB : ∀ k, bv.ownBlock = some k → w2.heap.size ≤ k ∧ k < w3.heap.size := fun k hk => hbv.lt k hk
  have z3 := g3.size
  obtain ⟨bo, bcap, rfl, -, -, -, -⟩ := own_form hbv
  have BB := Lib.hid bB
  clear hbv g3 bB
  go_wp2_with fail
  refine (ccompare_any _ _ (keyL x) (keyL y) w3 (IsB.of_own OAw3.out RA.out) (IsB.of_own OBw3.out RB.out)).mono ?_
  rw [HC.out]
  rintro e w' ⟨rfl, hw'⟩
  subst hw'
  go_wp2_with fail
  refine (keyText_any _ s w3 (HS.out.below G3.out) (by omega)).mono ?_
  unfold KeyTPost
  rw [HX.out]
  rintro e w4 ⟨pv, rfl, hpv, g4⟩
  have OPw4 := Lib.hid hpv
  have OAw4 := Lib.hid (own_below OAw3.out g4)
  have OBw4 := Lib.hid (own_below OBw3.out g4)
  have G4 := Lib.hid (bel_call G3.out g4)
  have bP : ∀ k, pv.ownBlock = some k → w3.heap.size ≤ k ∧ k < w4.heap.size := fun k hk => hpv.lt k hk
  have z4 := g4.size
  obtain ⟨po, pcap, rfl, -, -, -, -⟩ := own_form hpv
  have BP := Lib.hid bP
  clear hpv g4 bP
  go_wp2_with fail
  refine (keyText_any _ t w4 (HT.out.below G4.out) (by omega)).mono ?_
  unfold KeyTPost
  rw [HY.out]
  rintro e w5 ⟨qv, rfl, hqv, g5⟩
  have OQw5 := Lib.hid hqv
  have OPw5 := Lib.hid (own_below OPw4.out g5)
  have OAw5 := Lib.hid (own_below OAw4.out g5)
  have OBw5 := Lib.hid (own_below OBw4.out g5)
  have G5 := Lib.hid (bel_call G4.out g5)
  have bQ : ∀ k, qv.ownBlock = some k → w4.heap.size ≤ k ∧ k < w5.heap.size := fun k hk => hqv.lt k hk
  have z5 := g5.size
  obtain ⟨qo, qcap, rfl, -, -, -, -⟩ := own_form hqv
  have BQ := Lib.hid bQ
  clear hqv g5 bQ
  go_wp2_with fail
  refine (ccompare_any _ _ X Y w5 (IsB.of_own OPw5.out RP.out) (IsB.of_own OQw5.out RQ.out)).mono ?_
  rw [HKT.out]
  rintro e w' ⟨rfl, hw'⟩
  subst hw'
  go_wp2_with fail
  refine (rCompare_any _ _ s t w5 (HS.out.below G5.out) (HT.out.below G5.out)).mono ?_
  rw [HDD.out]
  rintro e w6 ⟨rfl, g6⟩
  have Gw6 := Lib.hid (bel_call G5.out g6)
  have OAw6 := Lib.hid (own_below OAw5.out g6)
  have OBw6 := Lib.hid (own_below OBw5.out g6)
  have OPw6 := Lib.hid (own_below OPw5.out g6)
  have OQw6 := Lib.hid (own_below OQw5.out g6)
  have C0w6 := (Gw6.out.cell (p := ⟨w.heap.size + 2, 0, none⟩) hb3).trans C0.out
  have C1w6 := (Gw6.out.cell (p := ⟨w.heap.size + 2, 1, none⟩) hb3).trans C1.out
  have z6 := g6.size
  clear g6
  go_wp2_with fail
  go_region_held3 (fun w' => w'.cell? ⟨w.heap.size + 2, 0, none⟩ = some r0v ∧ w'.cell? ⟨w.heap.size + 2, 1, none⟩ = some r1v) (first | exact ⟨by assumption, by assumption⟩ | go_keep) (first
        | (refine step_of_list rfl ?_; refine wpList_append_bytes' (v := .slice bo 8 bcap) (w := wa) (base := w1.heap.size) (.tmp 71) (.tmp 73) _ rfl rfl i0 _ Tryd.underlying23 HI.out HZ0.out HZ1.out HZ2.out rfl _ ((keyL y)) r1 rfl rfl (own_mono OBwa.out (by omega)) (show IsB wa _ _ from (HR1.out.below Gwa.out : IsB wa _ _)) (by first | omega | (simp only [keyL_len]; omega)) (by first | exact Gwa.out.size | omega) ?_; intro vB wE ho hg hb; refine list_done ?_; have GwE := Lib.hid (bel_row Gwa.out hg (fun k hk => by have := (BB.out k hk).1; omega)); have C0wE := (GwE.out.cell (p := ⟨w.heap.size + 2, 0, none⟩) hb3).trans C0.out; have C1wE := (GwE.out.cell (p := ⟨w.heap.size + 2, 1, none⟩) hb3).trans C1.out; have ZwE := hg.size; have OPwE := Lib.hid (OPwa.out.kept hg (blocks_apart BP.out BB.out (by omega))); have OQwE := Lib.hid (OQwa.out.kept hg (blocks_apart BQ.out BB.out (by omega))); have OVA := Lib.hid (NA.out.kept hg (blocks_apart' LA.out BB.out (by omega) (by first | assumption | (simp only [World.drew] at *; omega) | omega))); have OVB := Lib.hid ho; clear ho hg hb)
        | (refine step_of_list rfl ?_; refine wpList_append_bytes' (v := .slice ao 8 acap) (w := wb) (base := w1.heap.size) (.tmp 67) (.tmp 69) _ rfl rfl i0 _ Tryd.underlying23 HI.out HZ0.out HZ1.out HZ2.out rfl _ ((keyL x)) r0 rfl rfl (own_mono OAwb.out (by omega)) (show IsB wb _ _ from (HR0.out.below Gwb.out : IsB wb _ _)) (by first | omega | (simp only [keyL_len]; omega)) (by first | exact Gwb.out.size | omega) ?_; intro vA wE ho hg hb; refine list_done ?_; have GwE := Lib.hid (bel_row Gwb.out hg (fun k hk => by have := (BA.out k hk).1; omega)); have C0wE := (GwE.out.cell (p := ⟨w.heap.size + 2, 0, none⟩) hb3).trans C0.out; have C1wE := (GwE.out.cell (p := ⟨w.heap.size + 2, 1, none⟩) hb3).trans C1.out; have ZwE := hg.size; have OPwE := Lib.hid (OPwb.out.kept hg (blocks_apart BP.out BA.out (by omega))); have OQwE := Lib.hid (OQwb.out.kept hg (blocks_apart BQ.out BA.out (by omega))); have OVB := Lib.hid (NB.out.kept hg (blocks_apart' LB.out BA.out (by omega) (by first | assumption | (simp only [World.drew] at *; omega) | omega))); have OVA := Lib.hid ho; clear ho hg hb)
        | (refine step_of_list rfl ?_; refine wpList_append_bytes' (v := .slice ao 8 acap) (w := w6.drew) (base := w1.heap.size) (.tmp 67) (.tmp 69) _ rfl rfl i0 _ Tryd.underlying23 HI.out HZ0.out HZ1.out HZ2.out rfl _ ((keyL x)) r0 rfl rfl (own_mono (show World.ownsRow w6.drew _ _ _ _ _ _ from OAw6.out) (by omega)) (show IsB w6.drew _ _ from (HR0.out.below Gw6.out : IsB w6 _ _)) (by first | omega | (simp only [keyL_len]; omega)) (by first | exact Gw6.out.size | omega) ?_; intro vA wa ho hg hb; refine list_done ?_; have Gwa := Lib.hid (bel_row Gw6.out.drew hg (fun k hk => by have := (BA.out k hk).1; omega)); have C0wa := (Gwa.out.cell (p := ⟨w.heap.size + 2, 0, none⟩) hb3).trans C0.out; have C1wa := (Gwa.out.cell (p := ⟨w.heap.size + 2, 1, none⟩) hb3).trans C1.out; have Zwa := hg.size; have OBwa := Lib.hid ((show World.ownsRow w6.drew _ _ _ _ _ _ from OBw6.out).kept hg (blocks_apart BB.out BA.out (by omega))); have OPwa := Lib.hid ((show World.ownsRow w6.drew _ _ _ _ _ _ from OPw6.out).kept hg (blocks_apart BP.out BA.out (by omega))); have OQwa := Lib.hid ((show World.ownsRow w6.drew _ _ _ _ _ _ from OQw6.out).kept hg (blocks_apart BQ.out BA.out (by omega))); have NA := Lib.hid ho; have LA := Lib.hid (fresh_or hb BA.out); clear ho hg hb)
        | (refine step_of_list rfl ?_; refine wpList_append_bytes' (v := .slice bo 8 bcap) (w := w6.drew) (base := w1.heap.size) (.tmp 71) (.tmp 73) _ rfl rfl i0 _ Tryd.underlying23 HI.out HZ0.out HZ1.out HZ2.out rfl _ ((keyL y)) r1 rfl rfl (own_mono (show World.ownsRow w6.drew _ _ _ _ _ _ from OBw6.out) (by omega)) (show IsB w6.drew _ _ from (HR1.out.below Gw6.out : IsB w6 _ _)) (by first | omega | (simp only [keyL_len]; omega)) (by first | exact Gw6.out.size | omega) ?_; intro vB wb ho hg hb; refine list_done ?_; have Gwb := Lib.hid (bel_row Gw6.out.drew hg (fun k hk => by have := (BB.out k hk).1; omega)); have C0wb := (Gwb.out.cell (p := ⟨w.heap.size + 2, 0, none⟩) hb3).trans C0.out; have C1wb := (Gwb.out.cell (p := ⟨w.heap.size + 2, 1, none⟩) hb3).trans C1.out; have Zwb := hg.size; have OAwb := Lib.hid ((show World.ownsRow w6.drew _ _ _ _ _ _ from OAw6.out).kept hg (blocks_apart BA.out BB.out (by omega))); have OPwb := Lib.hid ((show World.ownsRow w6.drew _ _ _ _ _ _ from OPw6.out).kept hg (blocks_apart BP.out BB.out (by omega))); have OQwb := Lib.hid ((show World.ownsRow w6.drew _ _ _ _ _ _ from OQw6.out).kept hg (blocks_apart BQ.out BB.out (by omega))); have NB := Lib.hid ho; have LB := Lib.hid (fresh_or hb BB.out); clear ho hg hb)
        | (go_at_call 8; have hc := (ccompare_any vA vB ((keyL x) ++ r0) ((keyL y) ++ r1) wE (IsB.of_own OVA.out (RA.out.append HR0.out.rng)) (IsB.of_own OVB.out (RB.out.append HR1.out.rng))); rw [HE1.out] at hc; with_reducible refine Calls.mono hc ?_; clear hc; rintro e w' ⟨rfl, hw'⟩; subst hw'))
  all_goals (
    go_wp2_with fail
    go_ret
    exact ⟨rfl, bel_call Gw1.out GwE.out⟩)
set_option maxRecDepth 100000 in
set_option maxHeartbeats 8000000 in
theorem order_ge (x y : Int) (hx : -9223372036854775808 ≤ x ∧ x ≤ 9223372036854775807) (hy : -9223372036854775808 ≤ y ∧ y ≤ 9223372036854775807) (sv tv r0v r1v : Value) (s t r0 r1 : List Int) (w : World)
    (hs : IsB w sv s) (ht : IsB w tv t) (h0 : IsB w r0v r0) (h1 : IsB w r1v r1) (ls : s.length ≤ 1048576) (lt : t.length ≤ 1048576) (l0 : r0.length ≤ 1048576) (l1 : r1.length ≤ 1048576)
    (hxy : y < x) (hd : cmpB s t = 0) :
    Calls Tryd.prog 3 #[.agg #[.int .i64 x, .int .i64 y], .agg #[sv, tv], .agg #[r0v, r1v]] w (Ret (.bool true) w) := by
  obtain ⟨so, scap, rfl, -, -, -⟩ := hs.form
  obtain ⟨to, tcap, rfl, -, -, -⟩ := ht.form
  obtain ⟨r0o, r0cap, rfl, -, -, -⟩ := h0.form
  obtain ⟨r1o, r1cap, rfl, -, -, -⟩ := h1.form
  obtain ⟨r0v, hr0v⟩ : ∃ v, Value.slice r0o r0.length r0cap = v := ⟨_, rfl⟩
  obtain ⟨r1v, hr1v⟩ : ∃ v, Value.slice r1o r1.length r1cap = v := ⟨_, rfl⟩
  rw [hr0v] at h0 ⊢
  rw [hr1v] at h1 ⊢
  clear hr0v hr1v
  obtain ⟨X, hX⟩ : ∃ X, keyT s = X := ⟨_, rfl⟩
  obtain ⟨Y, hY⟩ : ∃ Y, keyT t = Y := ⟨_, rfl⟩
  have hXl : X.length ≤ 2097154 := by rw [← hX]; unfold keyT; rw [List.length_append, repl_len]; have : s.count 0 ≤ s.length := List.count_le_length; simp; omega
  have hYl : Y.length ≤ 2097154 := by rw [← hY]; unfold keyT; rw [List.length_append, repl_len]; have : t.count 0 ≤ t.length := List.count_le_length; simp; omega
  obtain ⟨c, hc⟩ : ∃ c, cmpB (keyL x) (keyL y) = c := ⟨_, rfl⟩
  obtain ⟨d, hdd⟩ : ∃ d, cmpB s t = d := ⟨_, rfl⟩
  have hcv := cmpB_keyL hx hy
  rw [hc] at hcv
  have hc0 : c = 1 := by rw [hcv, if_neg (by omega), if_pos hxy]
  subst hc0
  have q1 : decide (x < y) = false := decide_eq_false (by omega)
  have q2 : (x == y) = false := beq_eq_false_iff_ne.2 (by omega)
  have hkt : cmpB X Y = d := by rw [← hX, ← hY, cmpB_keyT s t hs.rng ht.rng]; exact hdd
  rw [hdd] at hd
  subst hd
  have he1 : cmpB (keyL x ++ r0) (keyL y ++ r1) = 1 := by rw [cmpB_app (l := keyL x) (m := keyL y) r0 r1 rfl (keyL_ne hx hy (by omega))]; exact hc
  have HE1 := Lib.hid he1
  have q3 : (x != y) = true := by simp; omega
  clear he1 hxy hcv
  have HX := Lib.hid hX
  have HY := Lib.hid hY
  have HC := Lib.hid hc
  have HKT := Lib.hid hkt
  have HDD := Lib.hid hdd
  have RA := Lib.hid (keyL_rng hx)
  have RB := Lib.hid (keyL_rng hy)
  have RP := Lib.hid (show Rng X by rw [← hX]; exact keyT_rng hs.rng)
  have RQ := Lib.hid (show Rng Y by rw [← hY]; exact keyT_rng ht.rng)
  have HS0 := Lib.hid hs; have HT0 := Lib.hid ht; have H00 := Lib.hid h0; have H10 := Lib.hid h1
  obtain ⟨i0, hi0, hz0, hz1, hz2⟩ := info_parts infoU8
  have HI := Lib.hid hi0; have HZ0 := Lib.hid hz0; have HZ1 := Lib.hid hz1; have HZ2 := Lib.hid hz2
  clear hi0 hz0 hz1 hz2 hs ht h0 h1 hX hY hc hkt hdd
  go_enter Tryd.func3, Tryd.ntmps3
  go_wp2_with fail
  refine (shown_any _).mono ?_
  rintro e w1 ⟨rfl, g1⟩
  replace k0 : w1.cell? ⟨w.heap.size, 0, none⟩ = some (.int .i64 x) := (g1.cell (p := ⟨w.heap.size, 0, none⟩) (by simp <;> omega)).trans (by go_simp); replace k1 : w1.cell? ⟨w.heap.size, 1, none⟩ = some (.int .i64 y) := (g1.cell (p := ⟨w.heap.size, 1, none⟩) (by simp <;> omega)).trans (by go_simp); replace k2 : w1.cell? ⟨w.heap.size + 1, 0, none⟩ = some (.slice so s.length scap) := (g1.cell (p := ⟨w.heap.size + 1, 0, none⟩) (by simp <;> omega)).trans (by go_simp); replace k3 : w1.cell? ⟨w.heap.size + 1, 1, none⟩ = some (.slice to t.length tcap) := (g1.cell (p := ⟨w.heap.size + 1, 1, none⟩) (by simp <;> omega)).trans (by go_simp); replace k4 : w1.cell? ⟨w.heap.size + 2, 0, none⟩ = some (r0v) := (g1.cell (p := ⟨w.heap.size + 2, 0, none⟩) (by simp <;> omega)).trans (by go_simp); replace k5 : w1.cell? ⟨w.heap.size + 2, 1, none⟩ = some (r1v) := (g1.cell (p := ⟨w.heap.size + 2, 1, none⟩) (by simp <;> omega)).trans (by go_simp)
  have hb3 : w.heap.size + 2 < w1.heap.size := by have := g1.size; simp at this; omega
  have Gw1 := Lib.hid (bel_call (bel_alloc (bel_alloc (bel_alloc (Below.refl _ w) _) _) _) g1)
  have HS := Lib.hid ((((HS0.out.alloc _).alloc _).alloc _).below g1)
  have HT := Lib.hid ((((HT0.out.alloc _).alloc _).alloc _).below g1)
  have HR0 := Lib.hid ((((H00.out.alloc _).alloc _).alloc _).below g1)
  have HR1 := Lib.hid ((((H10.out.alloc _).alloc _).alloc _).below g1)
  have C0 := Lib.hid k4
  have C1 := Lib.hid k5
  clear g1
  go_wp2_with fail
  refine (keyInt_any x w1 hx).mono ?_
  unfold KeyPost
  rintro e w2 ⟨av, rfl, hav, g2⟩
  have OAw2 := Lib.hid hav
  have G2 := Lib.hid g2
  have bA : ∀ k, av.ownBlock = some k → w1.heap.size ≤ k ∧ k < w2.heap.size := fun k hk => hav.lt k hk
  have z2 := g2.size
  obtain ⟨ao, acap, rfl, -, -, -, -⟩ := own_form hav
  have BA := Lib.hid bA
  clear hav g2 bA k0 k1 k2 k3 k4 k5
  go_wp2_with fail
  refine (keyInt_any y w2 hy).mono ?_
  unfold KeyPost
  rintro e w3 ⟨bv, rfl, hbv, g3⟩
  have OBw3 := Lib.hid hbv
  have OAw3 := Lib.hid (own_below OAw2.out g3)
  have G3 := Lib.hid (bel_call G2.out g3)
  have bB : ∀ k, bv.ownBlock = some k → w2.heap.size ≤ k ∧ k < w3.heap.size := fun k hk => hbv.lt k hk
  have z3 := g3.size
  obtain ⟨bo, bcap, rfl, -, -, -, -⟩ := own_form hbv
  have BB := Lib.hid bB
  clear hbv g3 bB
  go_wp2_with fail
  refine (ccompare_any _ _ (keyL x) (keyL y) w3 (IsB.of_own OAw3.out RA.out) (IsB.of_own OBw3.out RB.out)).mono ?_
  rw [HC.out]
  rintro e w' ⟨rfl, hw'⟩
  subst hw'
  go_wp2_with fail
  refine (keyText_any _ s w3 (HS.out.below G3.out) (by omega)).mono ?_
  unfold KeyTPost
  rw [HX.out]
  rintro e w4 ⟨pv, rfl, hpv, g4⟩
  have OPw4 := Lib.hid hpv
  have OAw4 := Lib.hid (own_below OAw3.out g4)
  have OBw4 := Lib.hid (own_below OBw3.out g4)
  have G4 := Lib.hid (bel_call G3.out g4)
  have bP : ∀ k, pv.ownBlock = some k → w3.heap.size ≤ k ∧ k < w4.heap.size := fun k hk => hpv.lt k hk
  have z4 := g4.size
  obtain ⟨po, pcap, rfl, -, -, -, -⟩ := own_form hpv
  have BP := Lib.hid bP
  clear hpv g4 bP
  go_wp2_with fail
  refine (keyText_any _ t w4 (HT.out.below G4.out) (by omega)).mono ?_
  unfold KeyTPost
  rw [HY.out]
  rintro e w5 ⟨qv, rfl, hqv, g5⟩
  have OQw5 := Lib.hid hqv
  have OPw5 := Lib.hid (own_below OPw4.out g5)
  have OAw5 := Lib.hid (own_below OAw4.out g5)
  have OBw5 := Lib.hid (own_below OBw4.out g5)
  have G5 := Lib.hid (bel_call G4.out g5)
  have bQ : ∀ k, qv.ownBlock = some k → w4.heap.size ≤ k ∧ k < w5.heap.size := fun k hk => hqv.lt k hk
  have z5 := g5.size
  obtain ⟨qo, qcap, rfl, -, -, -, -⟩ := own_form hqv
  have BQ := Lib.hid bQ
  clear hqv g5 bQ
  go_wp2_with fail
  refine (ccompare_any _ _ X Y w5 (IsB.of_own OPw5.out RP.out) (IsB.of_own OQw5.out RQ.out)).mono ?_
  rw [HKT.out]
  rintro e w' ⟨rfl, hw'⟩
  subst hw'
  go_wp2_with fail
  refine (rCompare_any _ _ s t w5 (HS.out.below G5.out) (HT.out.below G5.out)).mono ?_
  rw [HDD.out]
  rintro e w6 ⟨rfl, g6⟩
  have Gw6 := Lib.hid (bel_call G5.out g6)
  have OAw6 := Lib.hid (own_below OAw5.out g6)
  have OBw6 := Lib.hid (own_below OBw5.out g6)
  have OPw6 := Lib.hid (own_below OPw5.out g6)
  have OQw6 := Lib.hid (own_below OQw5.out g6)
  have C0w6 := (Gw6.out.cell (p := ⟨w.heap.size + 2, 0, none⟩) hb3).trans C0.out
  have C1w6 := (Gw6.out.cell (p := ⟨w.heap.size + 2, 1, none⟩) hb3).trans C1.out
  have z6 := g6.size
  clear g6
  go_wp2_with fail
  go_region_held3 (fun w' => w'.cell? ⟨w.heap.size + 2, 0, none⟩ = some r0v ∧ w'.cell? ⟨w.heap.size + 2, 1, none⟩ = some r1v) (first | exact ⟨by assumption, by assumption⟩ | go_keep) (first
        | (refine step_of_list rfl ?_; refine wpList_append_bytes' (v := .slice bo 8 bcap) (w := wa) (base := w1.heap.size) (.tmp 71) (.tmp 73) _ rfl rfl i0 _ Tryd.underlying23 HI.out HZ0.out HZ1.out HZ2.out rfl _ ((keyL y)) r1 rfl rfl (own_mono OBwa.out (by omega)) (show IsB wa _ _ from (HR1.out.below Gwa.out : IsB wa _ _)) (by first | omega | (simp only [keyL_len]; omega)) (by first | exact Gwa.out.size | omega) ?_; intro vB wE ho hg hb; refine list_done ?_; have GwE := Lib.hid (bel_row Gwa.out hg (fun k hk => by have := (BB.out k hk).1; omega)); have C0wE := (GwE.out.cell (p := ⟨w.heap.size + 2, 0, none⟩) hb3).trans C0.out; have C1wE := (GwE.out.cell (p := ⟨w.heap.size + 2, 1, none⟩) hb3).trans C1.out; have ZwE := hg.size; have OPwE := Lib.hid (OPwa.out.kept hg (blocks_apart BP.out BB.out (by omega))); have OQwE := Lib.hid (OQwa.out.kept hg (blocks_apart BQ.out BB.out (by omega))); have OVA := Lib.hid (NA.out.kept hg (blocks_apart' LA.out BB.out (by omega) (by first | assumption | (simp only [World.drew] at *; omega) | omega))); have OVB := Lib.hid ho; clear ho hg hb)
        | (refine step_of_list rfl ?_; refine wpList_append_bytes' (v := .slice ao 8 acap) (w := wb) (base := w1.heap.size) (.tmp 67) (.tmp 69) _ rfl rfl i0 _ Tryd.underlying23 HI.out HZ0.out HZ1.out HZ2.out rfl _ ((keyL x)) r0 rfl rfl (own_mono OAwb.out (by omega)) (show IsB wb _ _ from (HR0.out.below Gwb.out : IsB wb _ _)) (by first | omega | (simp only [keyL_len]; omega)) (by first | exact Gwb.out.size | omega) ?_; intro vA wE ho hg hb; refine list_done ?_; have GwE := Lib.hid (bel_row Gwb.out hg (fun k hk => by have := (BA.out k hk).1; omega)); have C0wE := (GwE.out.cell (p := ⟨w.heap.size + 2, 0, none⟩) hb3).trans C0.out; have C1wE := (GwE.out.cell (p := ⟨w.heap.size + 2, 1, none⟩) hb3).trans C1.out; have ZwE := hg.size; have OPwE := Lib.hid (OPwb.out.kept hg (blocks_apart BP.out BA.out (by omega))); have OQwE := Lib.hid (OQwb.out.kept hg (blocks_apart BQ.out BA.out (by omega))); have OVB := Lib.hid (NB.out.kept hg (blocks_apart' LB.out BA.out (by omega) (by first | assumption | (simp only [World.drew] at *; omega) | omega))); have OVA := Lib.hid ho; clear ho hg hb)
        | (refine step_of_list rfl ?_; refine wpList_append_bytes' (v := .slice ao 8 acap) (w := w6.drew) (base := w1.heap.size) (.tmp 67) (.tmp 69) _ rfl rfl i0 _ Tryd.underlying23 HI.out HZ0.out HZ1.out HZ2.out rfl _ ((keyL x)) r0 rfl rfl (own_mono (show World.ownsRow w6.drew _ _ _ _ _ _ from OAw6.out) (by omega)) (show IsB w6.drew _ _ from (HR0.out.below Gw6.out : IsB w6 _ _)) (by first | omega | (simp only [keyL_len]; omega)) (by first | exact Gw6.out.size | omega) ?_; intro vA wa ho hg hb; refine list_done ?_; have Gwa := Lib.hid (bel_row Gw6.out.drew hg (fun k hk => by have := (BA.out k hk).1; omega)); have C0wa := (Gwa.out.cell (p := ⟨w.heap.size + 2, 0, none⟩) hb3).trans C0.out; have C1wa := (Gwa.out.cell (p := ⟨w.heap.size + 2, 1, none⟩) hb3).trans C1.out; have Zwa := hg.size; have OBwa := Lib.hid ((show World.ownsRow w6.drew _ _ _ _ _ _ from OBw6.out).kept hg (blocks_apart BB.out BA.out (by omega))); have OPwa := Lib.hid ((show World.ownsRow w6.drew _ _ _ _ _ _ from OPw6.out).kept hg (blocks_apart BP.out BA.out (by omega))); have OQwa := Lib.hid ((show World.ownsRow w6.drew _ _ _ _ _ _ from OQw6.out).kept hg (blocks_apart BQ.out BA.out (by omega))); have NA := Lib.hid ho; have LA := Lib.hid (fresh_or hb BA.out); clear ho hg hb)
        | (refine step_of_list rfl ?_; refine wpList_append_bytes' (v := .slice bo 8 bcap) (w := w6.drew) (base := w1.heap.size) (.tmp 71) (.tmp 73) _ rfl rfl i0 _ Tryd.underlying23 HI.out HZ0.out HZ1.out HZ2.out rfl _ ((keyL y)) r1 rfl rfl (own_mono (show World.ownsRow w6.drew _ _ _ _ _ _ from OBw6.out) (by omega)) (show IsB w6.drew _ _ from (HR1.out.below Gw6.out : IsB w6 _ _)) (by first | omega | (simp only [keyL_len]; omega)) (by first | exact Gw6.out.size | omega) ?_; intro vB wb ho hg hb; refine list_done ?_; have Gwb := Lib.hid (bel_row Gw6.out.drew hg (fun k hk => by have := (BB.out k hk).1; omega)); have C0wb := (Gwb.out.cell (p := ⟨w.heap.size + 2, 0, none⟩) hb3).trans C0.out; have C1wb := (Gwb.out.cell (p := ⟨w.heap.size + 2, 1, none⟩) hb3).trans C1.out; have Zwb := hg.size; have OAwb := Lib.hid ((show World.ownsRow w6.drew _ _ _ _ _ _ from OAw6.out).kept hg (blocks_apart BA.out BB.out (by omega))); have OPwb := Lib.hid ((show World.ownsRow w6.drew _ _ _ _ _ _ from OPw6.out).kept hg (blocks_apart BP.out BB.out (by omega))); have OQwb := Lib.hid ((show World.ownsRow w6.drew _ _ _ _ _ _ from OQw6.out).kept hg (blocks_apart BQ.out BB.out (by omega))); have NB := Lib.hid ho; have LB := Lib.hid (fresh_or hb BB.out); clear ho hg hb)
        | (go_at_call 8; have hc := (ccompare_any vA vB ((keyL x) ++ r0) ((keyL y) ++ r1) wE (IsB.of_own OVA.out (RA.out.append HR0.out.rng)) (IsB.of_own OVB.out (RB.out.append HR1.out.rng))); rw [HE1.out] at hc; with_reducible refine Calls.mono hc ?_; clear hc; rintro e w' ⟨rfl, hw'⟩; subst hw'))
  all_goals (
    go_wp2_with fail
    go_ret
    exact ⟨rfl, bel_call Gw1.out GwE.out⟩)
set_option maxRecDepth 100000 in
set_option maxHeartbeats 8000000 in
theorem order_en (x y : Int) (hx : -9223372036854775808 ≤ x ∧ x ≤ 9223372036854775807) (hy : -9223372036854775808 ≤ y ∧ y ≤ 9223372036854775807) (sv tv r0v r1v : Value) (s t r0 r1 : List Int) (w : World)
    (hs : IsB w sv s) (ht : IsB w tv t) (h0 : IsB w r0v r0) (h1 : IsB w r1v r1) (ls : s.length ≤ 1048576) (lt : t.length ≤ 1048576) (l0 : r0.length ≤ 1048576) (l1 : r1.length ≤ 1048576)
    (hxy : x = y) (hd : cmpB s t ≠ 0) :
    Calls Tryd.prog 3 #[.agg #[.int .i64 x, .int .i64 y], .agg #[sv, tv], .agg #[r0v, r1v]] w (Ret (.bool true) w) := by
  obtain ⟨so, scap, rfl, -, -, -⟩ := hs.form
  obtain ⟨to, tcap, rfl, -, -, -⟩ := ht.form
  obtain ⟨r0o, r0cap, rfl, -, -, -⟩ := h0.form
  obtain ⟨r1o, r1cap, rfl, -, -, -⟩ := h1.form
  obtain ⟨r0v, hr0v⟩ : ∃ v, Value.slice r0o r0.length r0cap = v := ⟨_, rfl⟩
  obtain ⟨r1v, hr1v⟩ : ∃ v, Value.slice r1o r1.length r1cap = v := ⟨_, rfl⟩
  rw [hr0v] at h0 ⊢
  rw [hr1v] at h1 ⊢
  clear hr0v hr1v
  obtain ⟨X, hX⟩ : ∃ X, keyT s = X := ⟨_, rfl⟩
  obtain ⟨Y, hY⟩ : ∃ Y, keyT t = Y := ⟨_, rfl⟩
  have hXl : X.length ≤ 2097154 := by rw [← hX]; unfold keyT; rw [List.length_append, repl_len]; have : s.count 0 ≤ s.length := List.count_le_length; simp; omega
  have hYl : Y.length ≤ 2097154 := by rw [← hY]; unfold keyT; rw [List.length_append, repl_len]; have : t.count 0 ≤ t.length := List.count_le_length; simp; omega
  obtain ⟨c, hc⟩ : ∃ c, cmpB (keyL x) (keyL y) = c := ⟨_, rfl⟩
  obtain ⟨d, hdd⟩ : ∃ d, cmpB s t = d := ⟨_, rfl⟩
  have hcv := cmpB_keyL hx hy
  rw [hc] at hcv
  have hc0 : c = 0 := by rw [hcv, if_neg (by omega), if_neg (by omega)]
  subst hc0
  have q1 : decide (x < y) = false := decide_eq_false (by omega)
  have q2 : (x == y) = true := beq_iff_eq.2 hxy
  have hkt : cmpB X Y = d := by rw [← hX, ← hY, cmpB_keyT s t hs.rng ht.rng]; exact hdd
  rw [hdd] at hd
  have he2 : cmpB (X ++ r0) (Y ++ r1) = d := by rw [← hX, ← hY, cmpB_key r0 r1 hs.rng ht.rng (fun e => hd (by rw [← hdd, e, cmpB_refl]))]; exact hdd
  have HE2 := Lib.hid he2
  have q4 : (d != 0) = true := by simp [hd]
  clear he2
  have q3 : (x != y) = false := by simp [hxy]
  clear hxy hcv
  have HX := Lib.hid hX
  have HY := Lib.hid hY
  have HC := Lib.hid hc
  have HKT := Lib.hid hkt
  have HDD := Lib.hid hdd
  have RA := Lib.hid (keyL_rng hx)
  have RB := Lib.hid (keyL_rng hy)
  have RP := Lib.hid (show Rng X by rw [← hX]; exact keyT_rng hs.rng)
  have RQ := Lib.hid (show Rng Y by rw [← hY]; exact keyT_rng ht.rng)
  have HS0 := Lib.hid hs; have HT0 := Lib.hid ht; have H00 := Lib.hid h0; have H10 := Lib.hid h1
  obtain ⟨i0, hi0, hz0, hz1, hz2⟩ := info_parts infoU8
  have HI := Lib.hid hi0; have HZ0 := Lib.hid hz0; have HZ1 := Lib.hid hz1; have HZ2 := Lib.hid hz2
  clear hi0 hz0 hz1 hz2 hs ht h0 h1 hX hY hc hkt hdd
  go_enter Tryd.func3, Tryd.ntmps3
  go_wp2_with fail
  refine (shown_any _).mono ?_
  rintro e w1 ⟨rfl, g1⟩
  replace k0 : w1.cell? ⟨w.heap.size, 0, none⟩ = some (.int .i64 x) := (g1.cell (p := ⟨w.heap.size, 0, none⟩) (by simp <;> omega)).trans (by go_simp); replace k1 : w1.cell? ⟨w.heap.size, 1, none⟩ = some (.int .i64 y) := (g1.cell (p := ⟨w.heap.size, 1, none⟩) (by simp <;> omega)).trans (by go_simp); replace k2 : w1.cell? ⟨w.heap.size + 1, 0, none⟩ = some (.slice so s.length scap) := (g1.cell (p := ⟨w.heap.size + 1, 0, none⟩) (by simp <;> omega)).trans (by go_simp); replace k3 : w1.cell? ⟨w.heap.size + 1, 1, none⟩ = some (.slice to t.length tcap) := (g1.cell (p := ⟨w.heap.size + 1, 1, none⟩) (by simp <;> omega)).trans (by go_simp); replace k4 : w1.cell? ⟨w.heap.size + 2, 0, none⟩ = some (r0v) := (g1.cell (p := ⟨w.heap.size + 2, 0, none⟩) (by simp <;> omega)).trans (by go_simp); replace k5 : w1.cell? ⟨w.heap.size + 2, 1, none⟩ = some (r1v) := (g1.cell (p := ⟨w.heap.size + 2, 1, none⟩) (by simp <;> omega)).trans (by go_simp)
  have hb3 : w.heap.size + 2 < w1.heap.size := by have := g1.size; simp at this; omega
  have Gw1 := Lib.hid (bel_call (bel_alloc (bel_alloc (bel_alloc (Below.refl _ w) _) _) _) g1)
  have HS := Lib.hid ((((HS0.out.alloc _).alloc _).alloc _).below g1)
  have HT := Lib.hid ((((HT0.out.alloc _).alloc _).alloc _).below g1)
  have HR0 := Lib.hid ((((H00.out.alloc _).alloc _).alloc _).below g1)
  have HR1 := Lib.hid ((((H10.out.alloc _).alloc _).alloc _).below g1)
  have C0 := Lib.hid k4
  have C1 := Lib.hid k5
  clear g1
  go_wp2_with fail
  refine (keyInt_any x w1 hx).mono ?_
  unfold KeyPost
  rintro e w2 ⟨av, rfl, hav, g2⟩
  have OAw2 := Lib.hid hav
  have G2 := Lib.hid g2
  have bA : ∀ k, av.ownBlock = some k → w1.heap.size ≤ k ∧ k < w2.heap.size := fun k hk => hav.lt k hk
  have z2 := g2.size
  obtain ⟨ao, acap, rfl, -, -, -, -⟩ := own_form hav
  have BA := Lib.hid bA
  clear hav g2 bA k0 k1 k2 k3 k4 k5
  go_wp2_with fail
  refine (keyInt_any y w2 hy).mono ?_
  unfold KeyPost
  rintro e w3 ⟨bv, rfl, hbv, g3⟩
  have OBw3 := Lib.hid hbv
  have OAw3 := Lib.hid (own_below OAw2.out g3)
  have G3 := Lib.hid (bel_call G2.out g3)
  have bB : ∀ k, bv.ownBlock = some k → w2.heap.size ≤ k ∧ k < w3.heap.size := fun k hk => hbv.lt k hk
  have z3 := g3.size
  obtain ⟨bo, bcap, rfl, -, -, -, -⟩ := own_form hbv
  have BB := Lib.hid bB
  clear hbv g3 bB
  go_wp2_with fail
  refine (ccompare_any _ _ (keyL x) (keyL y) w3 (IsB.of_own OAw3.out RA.out) (IsB.of_own OBw3.out RB.out)).mono ?_
  rw [HC.out]
  rintro e w' ⟨rfl, hw'⟩
  subst hw'
  go_wp2_with fail
  refine (keyText_any _ s w3 (HS.out.below G3.out) (by omega)).mono ?_
  unfold KeyTPost
  rw [HX.out]
  rintro e w4 ⟨pv, rfl, hpv, g4⟩
  have OPw4 := Lib.hid hpv
  have OAw4 := Lib.hid (own_below OAw3.out g4)
  have OBw4 := Lib.hid (own_below OBw3.out g4)
  have G4 := Lib.hid (bel_call G3.out g4)
  have bP : ∀ k, pv.ownBlock = some k → w3.heap.size ≤ k ∧ k < w4.heap.size := fun k hk => hpv.lt k hk
  have z4 := g4.size
  obtain ⟨po, pcap, rfl, -, -, -, -⟩ := own_form hpv
  have BP := Lib.hid bP
  clear hpv g4 bP
  go_wp2_with fail
  refine (keyText_any _ t w4 (HT.out.below G4.out) (by omega)).mono ?_
  unfold KeyTPost
  rw [HY.out]
  rintro e w5 ⟨qv, rfl, hqv, g5⟩
  have OQw5 := Lib.hid hqv
  have OPw5 := Lib.hid (own_below OPw4.out g5)
  have OAw5 := Lib.hid (own_below OAw4.out g5)
  have OBw5 := Lib.hid (own_below OBw4.out g5)
  have G5 := Lib.hid (bel_call G4.out g5)
  have bQ : ∀ k, qv.ownBlock = some k → w4.heap.size ≤ k ∧ k < w5.heap.size := fun k hk => hqv.lt k hk
  have z5 := g5.size
  obtain ⟨qo, qcap, rfl, -, -, -, -⟩ := own_form hqv
  have BQ := Lib.hid bQ
  clear hqv g5 bQ
  go_wp2_with fail
  refine (ccompare_any _ _ X Y w5 (IsB.of_own OPw5.out RP.out) (IsB.of_own OQw5.out RQ.out)).mono ?_
  rw [HKT.out]
  rintro e w' ⟨rfl, hw'⟩
  subst hw'
  go_wp2_with fail
  refine (rCompare_any _ _ s t w5 (HS.out.below G5.out) (HT.out.below G5.out)).mono ?_
  rw [HDD.out]
  rintro e w6 ⟨rfl, g6⟩
  have Gw6 := Lib.hid (bel_call G5.out g6)
  have OAw6 := Lib.hid (own_below OAw5.out g6)
  have OBw6 := Lib.hid (own_below OBw5.out g6)
  have OPw6 := Lib.hid (own_below OPw5.out g6)
  have OQw6 := Lib.hid (own_below OQw5.out g6)
  have C0w6 := (Gw6.out.cell (p := ⟨w.heap.size + 2, 0, none⟩) hb3).trans C0.out
  have C1w6 := (Gw6.out.cell (p := ⟨w.heap.size + 2, 1, none⟩) hb3).trans C1.out
  have z6 := g6.size
  clear g6
  go_wp2_with fail
  go_region_held3 (fun w' => w'.cell? ⟨w.heap.size + 2, 0, none⟩ = some r0v ∧ w'.cell? ⟨w.heap.size + 2, 1, none⟩ = some r1v) (first | exact ⟨by assumption, by assumption⟩ | go_keep) (first
        | (refine step_of_list rfl ?_; refine wpList_append_bytes' (v := .slice qo Y.length qcap) (w := wa) (base := w1.heap.size) (.tmp 85) (.tmp 87) _ rfl rfl i0 _ Tryd.underlying23 HI.out HZ0.out HZ1.out HZ2.out rfl _ (Y) r1 rfl rfl (own_mono OQwa.out (by omega)) (show IsB wa _ _ from (HR1.out.below Gwa.out : IsB wa _ _)) (by first | omega | (simp only [keyL_len]; omega)) (by first | exact Gwa.out.size | omega) ?_; intro vQ wF ho hg hb; refine list_done ?_; have GwF := Lib.hid (bel_row Gwa.out hg (fun k hk => by have := (BQ.out k hk).1; omega)); have C0wF := (GwF.out.cell (p := ⟨w.heap.size + 2, 0, none⟩) hb3).trans C0.out; have C1wF := (GwF.out.cell (p := ⟨w.heap.size + 2, 1, none⟩) hb3).trans C1.out; have ZwF := hg.size; have OVP := Lib.hid (NP.out.kept hg (blocks_apart' LP.out BQ.out (by omega) (by first | assumption | (simp only [World.drew] at *; omega) | omega))); have OVQ := Lib.hid ho; clear ho hg hb)
        | (refine step_of_list rfl ?_; refine wpList_append_bytes' (v := .slice po X.length pcap) (w := wb) (base := w1.heap.size) (.tmp 81) (.tmp 83) _ rfl rfl i0 _ Tryd.underlying23 HI.out HZ0.out HZ1.out HZ2.out rfl _ (X) r0 rfl rfl (own_mono OPwb.out (by omega)) (show IsB wb _ _ from (HR0.out.below Gwb.out : IsB wb _ _)) (by first | omega | (simp only [keyL_len]; omega)) (by first | exact Gwb.out.size | omega) ?_; intro vP wF ho hg hb; refine list_done ?_; have GwF := Lib.hid (bel_row Gwb.out hg (fun k hk => by have := (BP.out k hk).1; omega)); have C0wF := (GwF.out.cell (p := ⟨w.heap.size + 2, 0, none⟩) hb3).trans C0.out; have C1wF := (GwF.out.cell (p := ⟨w.heap.size + 2, 1, none⟩) hb3).trans C1.out; have ZwF := hg.size; have OVQ := Lib.hid (NQ.out.kept hg (blocks_apart' LQ.out BP.out (by omega) (by first | assumption | (simp only [World.drew] at *; omega) | omega))); have OVP := Lib.hid ho; clear ho hg hb)
        | (refine step_of_list rfl ?_; refine wpList_append_bytes' (v := .slice po X.length pcap) (w := w6.drew) (base := w1.heap.size) (.tmp 81) (.tmp 83) _ rfl rfl i0 _ Tryd.underlying23 HI.out HZ0.out HZ1.out HZ2.out rfl _ (X) r0 rfl rfl (own_mono (show World.ownsRow w6.drew _ _ _ _ _ _ from OPw6.out) (by omega)) (show IsB w6.drew _ _ from (HR0.out.below Gw6.out : IsB w6 _ _)) (by first | omega | (simp only [keyL_len]; omega)) (by first | exact Gw6.out.size | omega) ?_; intro vP wa ho hg hb; refine list_done ?_; have Gwa := Lib.hid (bel_row Gw6.out.drew hg (fun k hk => by have := (BP.out k hk).1; omega)); have C0wa := (Gwa.out.cell (p := ⟨w.heap.size + 2, 0, none⟩) hb3).trans C0.out; have C1wa := (Gwa.out.cell (p := ⟨w.heap.size + 2, 1, none⟩) hb3).trans C1.out; have Zwa := hg.size; have OQwa := Lib.hid ((show World.ownsRow w6.drew _ _ _ _ _ _ from OQw6.out).kept hg (blocks_apart BQ.out BP.out (by omega))); have NP := Lib.hid ho; have LP := Lib.hid (fresh_or hb BP.out); clear ho hg hb)
        | (refine step_of_list rfl ?_; refine wpList_append_bytes' (v := .slice qo Y.length qcap) (w := w6.drew) (base := w1.heap.size) (.tmp 85) (.tmp 87) _ rfl rfl i0 _ Tryd.underlying23 HI.out HZ0.out HZ1.out HZ2.out rfl _ (Y) r1 rfl rfl (own_mono (show World.ownsRow w6.drew _ _ _ _ _ _ from OQw6.out) (by omega)) (show IsB w6.drew _ _ from (HR1.out.below Gw6.out : IsB w6 _ _)) (by first | omega | (simp only [keyL_len]; omega)) (by first | exact Gw6.out.size | omega) ?_; intro vQ wb ho hg hb; refine list_done ?_; have Gwb := Lib.hid (bel_row Gw6.out.drew hg (fun k hk => by have := (BQ.out k hk).1; omega)); have C0wb := (Gwb.out.cell (p := ⟨w.heap.size + 2, 0, none⟩) hb3).trans C0.out; have C1wb := (Gwb.out.cell (p := ⟨w.heap.size + 2, 1, none⟩) hb3).trans C1.out; have Zwb := hg.size; have OPwb := Lib.hid ((show World.ownsRow w6.drew _ _ _ _ _ _ from OPw6.out).kept hg (blocks_apart BP.out BQ.out (by omega))); have NQ := Lib.hid ho; have LQ := Lib.hid (fresh_or hb BQ.out); clear ho hg hb)
        | (go_at_call 8; have hc := (ccompare_any vP vQ (X ++ r0) (Y ++ r1) wF (IsB.of_own OVP.out (RP.out.append HR0.out.rng)) (IsB.of_own OVQ.out (RQ.out.append HR1.out.rng))); rw [HE2.out] at hc; with_reducible refine Calls.mono hc ?_; clear hc; rintro e w' ⟨rfl, hw'⟩; subst hw'))
  all_goals (
    go_wp2_with fail
    go_ret
    exact ⟨rfl, bel_call Gw1.out GwF.out⟩)
set_option maxRecDepth 100000 in
set_option maxHeartbeats 8000000 in
theorem order_ln (x y : Int) (hx : -9223372036854775808 ≤ x ∧ x ≤ 9223372036854775807) (hy : -9223372036854775808 ≤ y ∧ y ≤ 9223372036854775807) (sv tv r0v r1v : Value) (s t r0 r1 : List Int) (w : World)
    (hs : IsB w sv s) (ht : IsB w tv t) (h0 : IsB w r0v r0) (h1 : IsB w r1v r1) (ls : s.length ≤ 1048576) (lt : t.length ≤ 1048576) (l0 : r0.length ≤ 1048576) (l1 : r1.length ≤ 1048576)
    (hxy : x < y) (hd : cmpB s t ≠ 0) :
    Calls Tryd.prog 3 #[.agg #[.int .i64 x, .int .i64 y], .agg #[sv, tv], .agg #[r0v, r1v]] w (Ret (.bool true) w) := by
  obtain ⟨so, scap, rfl, -, -, -⟩ := hs.form
  obtain ⟨to, tcap, rfl, -, -, -⟩ := ht.form
  obtain ⟨r0o, r0cap, rfl, -, -, -⟩ := h0.form
  obtain ⟨r1o, r1cap, rfl, -, -, -⟩ := h1.form
  obtain ⟨r0v, hr0v⟩ : ∃ v, Value.slice r0o r0.length r0cap = v := ⟨_, rfl⟩
  obtain ⟨r1v, hr1v⟩ : ∃ v, Value.slice r1o r1.length r1cap = v := ⟨_, rfl⟩
  rw [hr0v] at h0 ⊢
  rw [hr1v] at h1 ⊢
  clear hr0v hr1v
  obtain ⟨X, hX⟩ : ∃ X, keyT s = X := ⟨_, rfl⟩
  obtain ⟨Y, hY⟩ : ∃ Y, keyT t = Y := ⟨_, rfl⟩
  have hXl : X.length ≤ 2097154 := by rw [← hX]; unfold keyT; rw [List.length_append, repl_len]; have : s.count 0 ≤ s.length := List.count_le_length; simp; omega
  have hYl : Y.length ≤ 2097154 := by rw [← hY]; unfold keyT; rw [List.length_append, repl_len]; have : t.count 0 ≤ t.length := List.count_le_length; simp; omega
  obtain ⟨c, hc⟩ : ∃ c, cmpB (keyL x) (keyL y) = c := ⟨_, rfl⟩
  obtain ⟨d, hdd⟩ : ∃ d, cmpB s t = d := ⟨_, rfl⟩
  have hcv := cmpB_keyL hx hy
  rw [hc] at hcv
  have hc0 : c = -1 := by rw [hcv, if_pos hxy]
  subst hc0
  have q1 : decide (x < y) = true := decide_eq_true hxy
  have q2 : (x == y) = false := beq_eq_false_iff_ne.2 (by omega)
  have hkt : cmpB X Y = d := by rw [← hX, ← hY, cmpB_keyT s t hs.rng ht.rng]; exact hdd
  rw [hdd] at hd
  have he2 : cmpB (X ++ r0) (Y ++ r1) = d := by rw [← hX, ← hY, cmpB_key r0 r1 hs.rng ht.rng (fun e => hd (by rw [← hdd, e, cmpB_refl]))]; exact hdd
  have HE2 := Lib.hid he2
  have q4 : (d != 0) = true := by simp [hd]
  clear he2
  have he1 : cmpB (keyL x ++ r0) (keyL y ++ r1) = -1 := by rw [cmpB_app (l := keyL x) (m := keyL y) r0 r1 rfl (keyL_ne hx hy (by omega))]; exact hc
  have HE1 := Lib.hid he1
  have q3 : (x != y) = true := by simp; omega
  clear he1 hxy hcv
  have HX := Lib.hid hX
  have HY := Lib.hid hY
  have HC := Lib.hid hc
  have HKT := Lib.hid hkt
  have HDD := Lib.hid hdd
  have RA := Lib.hid (keyL_rng hx)
  have RB := Lib.hid (keyL_rng hy)
  have RP := Lib.hid (show Rng X by rw [← hX]; exact keyT_rng hs.rng)
  have RQ := Lib.hid (show Rng Y by rw [← hY]; exact keyT_rng ht.rng)
  have HS0 := Lib.hid hs; have HT0 := Lib.hid ht; have H00 := Lib.hid h0; have H10 := Lib.hid h1
  obtain ⟨i0, hi0, hz0, hz1, hz2⟩ := info_parts infoU8
  have HI := Lib.hid hi0; have HZ0 := Lib.hid hz0; have HZ1 := Lib.hid hz1; have HZ2 := Lib.hid hz2
  clear hi0 hz0 hz1 hz2 hs ht h0 h1 hX hY hc hkt hdd
  go_enter Tryd.func3, Tryd.ntmps3
  go_wp2_with fail
  refine (shown_any _).mono ?_
  rintro e w1 ⟨rfl, g1⟩
  replace k0 : w1.cell? ⟨w.heap.size, 0, none⟩ = some (.int .i64 x) := (g1.cell (p := ⟨w.heap.size, 0, none⟩) (by simp <;> omega)).trans (by go_simp); replace k1 : w1.cell? ⟨w.heap.size, 1, none⟩ = some (.int .i64 y) := (g1.cell (p := ⟨w.heap.size, 1, none⟩) (by simp <;> omega)).trans (by go_simp); replace k2 : w1.cell? ⟨w.heap.size + 1, 0, none⟩ = some (.slice so s.length scap) := (g1.cell (p := ⟨w.heap.size + 1, 0, none⟩) (by simp <;> omega)).trans (by go_simp); replace k3 : w1.cell? ⟨w.heap.size + 1, 1, none⟩ = some (.slice to t.length tcap) := (g1.cell (p := ⟨w.heap.size + 1, 1, none⟩) (by simp <;> omega)).trans (by go_simp); replace k4 : w1.cell? ⟨w.heap.size + 2, 0, none⟩ = some (r0v) := (g1.cell (p := ⟨w.heap.size + 2, 0, none⟩) (by simp <;> omega)).trans (by go_simp); replace k5 : w1.cell? ⟨w.heap.size + 2, 1, none⟩ = some (r1v) := (g1.cell (p := ⟨w.heap.size + 2, 1, none⟩) (by simp <;> omega)).trans (by go_simp)
  have hb3 : w.heap.size + 2 < w1.heap.size := by have := g1.size; simp at this; omega
  have Gw1 := Lib.hid (bel_call (bel_alloc (bel_alloc (bel_alloc (Below.refl _ w) _) _) _) g1)
  have HS := Lib.hid ((((HS0.out.alloc _).alloc _).alloc _).below g1)
  have HT := Lib.hid ((((HT0.out.alloc _).alloc _).alloc _).below g1)
  have HR0 := Lib.hid ((((H00.out.alloc _).alloc _).alloc _).below g1)
  have HR1 := Lib.hid ((((H10.out.alloc _).alloc _).alloc _).below g1)
  have C0 := Lib.hid k4
  have C1 := Lib.hid k5
  clear g1
  go_wp2_with fail
  refine (keyInt_any x w1 hx).mono ?_
  unfold KeyPost
  rintro e w2 ⟨av, rfl, hav, g2⟩
  have OAw2 := Lib.hid hav
  have G2 := Lib.hid g2
  have bA : ∀ k, av.ownBlock = some k → w1.heap.size ≤ k ∧ k < w2.heap.size := fun k hk => hav.lt k hk
  have z2 := g2.size
  obtain ⟨ao, acap, rfl, -, -, -, -⟩ := own_form hav
  have BA := Lib.hid bA
  clear hav g2 bA k0 k1 k2 k3 k4 k5
  go_wp2_with fail
  refine (keyInt_any y w2 hy).mono ?_
  unfold KeyPost
  rintro e w3 ⟨bv, rfl, hbv, g3⟩
  have OBw3 := Lib.hid hbv
  have OAw3 := Lib.hid (own_below OAw2.out g3)
  have G3 := Lib.hid (bel_call G2.out g3)
  have bB : ∀ k, bv.ownBlock = some k → w2.heap.size ≤ k ∧ k < w3.heap.size := fun k hk => hbv.lt k hk
  have z3 := g3.size
  obtain ⟨bo, bcap, rfl, -, -, -, -⟩ := own_form hbv
  have BB := Lib.hid bB
  clear hbv g3 bB
  go_wp2_with fail
  refine (ccompare_any _ _ (keyL x) (keyL y) w3 (IsB.of_own OAw3.out RA.out) (IsB.of_own OBw3.out RB.out)).mono ?_
  rw [HC.out]
  rintro e w' ⟨rfl, hw'⟩
  subst hw'
  go_wp2_with fail
  refine (keyText_any _ s w3 (HS.out.below G3.out) (by omega)).mono ?_
  unfold KeyTPost
  rw [HX.out]
  rintro e w4 ⟨pv, rfl, hpv, g4⟩
  have OPw4 := Lib.hid hpv
  have OAw4 := Lib.hid (own_below OAw3.out g4)
  have OBw4 := Lib.hid (own_below OBw3.out g4)
  have G4 := Lib.hid (bel_call G3.out g4)
  have bP : ∀ k, pv.ownBlock = some k → w3.heap.size ≤ k ∧ k < w4.heap.size := fun k hk => hpv.lt k hk
  have z4 := g4.size
  obtain ⟨po, pcap, rfl, -, -, -, -⟩ := own_form hpv
  have BP := Lib.hid bP
  clear hpv g4 bP
  go_wp2_with fail
  refine (keyText_any _ t w4 (HT.out.below G4.out) (by omega)).mono ?_
  unfold KeyTPost
  rw [HY.out]
  rintro e w5 ⟨qv, rfl, hqv, g5⟩
  have OQw5 := Lib.hid hqv
  have OPw5 := Lib.hid (own_below OPw4.out g5)
  have OAw5 := Lib.hid (own_below OAw4.out g5)
  have OBw5 := Lib.hid (own_below OBw4.out g5)
  have G5 := Lib.hid (bel_call G4.out g5)
  have bQ : ∀ k, qv.ownBlock = some k → w4.heap.size ≤ k ∧ k < w5.heap.size := fun k hk => hqv.lt k hk
  have z5 := g5.size
  obtain ⟨qo, qcap, rfl, -, -, -, -⟩ := own_form hqv
  have BQ := Lib.hid bQ
  clear hqv g5 bQ
  go_wp2_with fail
  refine (ccompare_any _ _ X Y w5 (IsB.of_own OPw5.out RP.out) (IsB.of_own OQw5.out RQ.out)).mono ?_
  rw [HKT.out]
  rintro e w' ⟨rfl, hw'⟩
  subst hw'
  go_wp2_with fail
  refine (rCompare_any _ _ s t w5 (HS.out.below G5.out) (HT.out.below G5.out)).mono ?_
  rw [HDD.out]
  rintro e w6 ⟨rfl, g6⟩
  have Gw6 := Lib.hid (bel_call G5.out g6)
  have OAw6 := Lib.hid (own_below OAw5.out g6)
  have OBw6 := Lib.hid (own_below OBw5.out g6)
  have OPw6 := Lib.hid (own_below OPw5.out g6)
  have OQw6 := Lib.hid (own_below OQw5.out g6)
  have C0w6 := (Gw6.out.cell (p := ⟨w.heap.size + 2, 0, none⟩) hb3).trans C0.out
  have C1w6 := (Gw6.out.cell (p := ⟨w.heap.size + 2, 1, none⟩) hb3).trans C1.out
  have z6 := g6.size
  clear g6
  go_wp2_with fail
  go_region_held3 (fun w' => w'.cell? ⟨w.heap.size + 2, 0, none⟩ = some r0v ∧ w'.cell? ⟨w.heap.size + 2, 1, none⟩ = some r1v) (first | exact ⟨by assumption, by assumption⟩ | go_keep) (first
        | (refine step_of_list rfl ?_; refine wpList_append_bytes' (v := .slice bo 8 bcap) (w := wa) (base := w1.heap.size) (.tmp 71) (.tmp 73) _ rfl rfl i0 _ Tryd.underlying23 HI.out HZ0.out HZ1.out HZ2.out rfl _ ((keyL y)) r1 rfl rfl (own_mono OBwa.out (by omega)) (show IsB wa _ _ from (HR1.out.below Gwa.out : IsB wa _ _)) (by first | omega | (simp only [keyL_len]; omega)) (by first | exact Gwa.out.size | omega) ?_; intro vB wE ho hg hb; refine list_done ?_; have GwE := Lib.hid (bel_row Gwa.out hg (fun k hk => by have := (BB.out k hk).1; omega)); have C0wE := (GwE.out.cell (p := ⟨w.heap.size + 2, 0, none⟩) hb3).trans C0.out; have C1wE := (GwE.out.cell (p := ⟨w.heap.size + 2, 1, none⟩) hb3).trans C1.out; have ZwE := hg.size; have OPwE := Lib.hid (OPwa.out.kept hg (blocks_apart BP.out BB.out (by omega))); have OQwE := Lib.hid (OQwa.out.kept hg (blocks_apart BQ.out BB.out (by omega))); have OVA := Lib.hid (NA.out.kept hg (blocks_apart' LA.out BB.out (by omega) (by first | assumption | (simp only [World.drew] at *; omega) | omega))); have OVB := Lib.hid ho; clear ho hg hb)
        | (refine step_of_list rfl ?_; refine wpList_append_bytes' (v := .slice ao 8 acap) (w := wb) (base := w1.heap.size) (.tmp 67) (.tmp 69) _ rfl rfl i0 _ Tryd.underlying23 HI.out HZ0.out HZ1.out HZ2.out rfl _ ((keyL x)) r0 rfl rfl (own_mono OAwb.out (by omega)) (show IsB wb _ _ from (HR0.out.below Gwb.out : IsB wb _ _)) (by first | omega | (simp only [keyL_len]; omega)) (by first | exact Gwb.out.size | omega) ?_; intro vA wE ho hg hb; refine list_done ?_; have GwE := Lib.hid (bel_row Gwb.out hg (fun k hk => by have := (BA.out k hk).1; omega)); have C0wE := (GwE.out.cell (p := ⟨w.heap.size + 2, 0, none⟩) hb3).trans C0.out; have C1wE := (GwE.out.cell (p := ⟨w.heap.size + 2, 1, none⟩) hb3).trans C1.out; have ZwE := hg.size; have OPwE := Lib.hid (OPwb.out.kept hg (blocks_apart BP.out BA.out (by omega))); have OQwE := Lib.hid (OQwb.out.kept hg (blocks_apart BQ.out BA.out (by omega))); have OVB := Lib.hid (NB.out.kept hg (blocks_apart' LB.out BA.out (by omega) (by first | assumption | (simp only [World.drew] at *; omega) | omega))); have OVA := Lib.hid ho; clear ho hg hb)
        | (refine step_of_list rfl ?_; refine wpList_append_bytes' (v := .slice ao 8 acap) (w := w6.drew) (base := w1.heap.size) (.tmp 67) (.tmp 69) _ rfl rfl i0 _ Tryd.underlying23 HI.out HZ0.out HZ1.out HZ2.out rfl _ ((keyL x)) r0 rfl rfl (own_mono (show World.ownsRow w6.drew _ _ _ _ _ _ from OAw6.out) (by omega)) (show IsB w6.drew _ _ from (HR0.out.below Gw6.out : IsB w6 _ _)) (by first | omega | (simp only [keyL_len]; omega)) (by first | exact Gw6.out.size | omega) ?_; intro vA wa ho hg hb; refine list_done ?_; have Gwa := Lib.hid (bel_row Gw6.out.drew hg (fun k hk => by have := (BA.out k hk).1; omega)); have C0wa := (Gwa.out.cell (p := ⟨w.heap.size + 2, 0, none⟩) hb3).trans C0.out; have C1wa := (Gwa.out.cell (p := ⟨w.heap.size + 2, 1, none⟩) hb3).trans C1.out; have Zwa := hg.size; have OBwa := Lib.hid ((show World.ownsRow w6.drew _ _ _ _ _ _ from OBw6.out).kept hg (blocks_apart BB.out BA.out (by omega))); have OPwa := Lib.hid ((show World.ownsRow w6.drew _ _ _ _ _ _ from OPw6.out).kept hg (blocks_apart BP.out BA.out (by omega))); have OQwa := Lib.hid ((show World.ownsRow w6.drew _ _ _ _ _ _ from OQw6.out).kept hg (blocks_apart BQ.out BA.out (by omega))); have NA := Lib.hid ho; have LA := Lib.hid (fresh_or hb BA.out); clear ho hg hb)
        | (refine step_of_list rfl ?_; refine wpList_append_bytes' (v := .slice bo 8 bcap) (w := w6.drew) (base := w1.heap.size) (.tmp 71) (.tmp 73) _ rfl rfl i0 _ Tryd.underlying23 HI.out HZ0.out HZ1.out HZ2.out rfl _ ((keyL y)) r1 rfl rfl (own_mono (show World.ownsRow w6.drew _ _ _ _ _ _ from OBw6.out) (by omega)) (show IsB w6.drew _ _ from (HR1.out.below Gw6.out : IsB w6 _ _)) (by first | omega | (simp only [keyL_len]; omega)) (by first | exact Gw6.out.size | omega) ?_; intro vB wb ho hg hb; refine list_done ?_; have Gwb := Lib.hid (bel_row Gw6.out.drew hg (fun k hk => by have := (BB.out k hk).1; omega)); have C0wb := (Gwb.out.cell (p := ⟨w.heap.size + 2, 0, none⟩) hb3).trans C0.out; have C1wb := (Gwb.out.cell (p := ⟨w.heap.size + 2, 1, none⟩) hb3).trans C1.out; have Zwb := hg.size; have OAwb := Lib.hid ((show World.ownsRow w6.drew _ _ _ _ _ _ from OAw6.out).kept hg (blocks_apart BA.out BB.out (by omega))); have OPwb := Lib.hid ((show World.ownsRow w6.drew _ _ _ _ _ _ from OPw6.out).kept hg (blocks_apart BP.out BB.out (by omega))); have OQwb := Lib.hid ((show World.ownsRow w6.drew _ _ _ _ _ _ from OQw6.out).kept hg (blocks_apart BQ.out BB.out (by omega))); have NB := Lib.hid ho; have LB := Lib.hid (fresh_or hb BB.out); clear ho hg hb)
        | (go_at_call 8; have hc := (ccompare_any vA vB ((keyL x) ++ r0) ((keyL y) ++ r1) wE (IsB.of_own OVA.out (RA.out.append HR0.out.rng)) (IsB.of_own OVB.out (RB.out.append HR1.out.rng))); rw [HE1.out] at hc; with_reducible refine Calls.mono hc ?_; clear hc; rintro e w' ⟨rfl, hw'⟩; subst hw'))
  all_goals (
    go_wp2_with fail
    go_region_held3 (fun w' => w'.cell? ⟨w.heap.size + 2, 0, none⟩ = some r0v ∧ w'.cell? ⟨w.heap.size + 2, 1, none⟩ = some r1v) (first | exact ⟨by assumption, by assumption⟩ | go_keep) (first
        | (refine step_of_list rfl ?_; refine wpList_append_bytes' (v := .slice qo Y.length qcap) (w := wa) (base := w1.heap.size) (.tmp 85) (.tmp 87) _ rfl rfl i0 _ Tryd.underlying23 HI.out HZ0.out HZ1.out HZ2.out rfl _ (Y) r1 rfl rfl (own_mono OQwa.out (by omega)) (show IsB wa _ _ from (HR1.out.below Gwa.out : IsB wa _ _)) (by first | omega | (simp only [keyL_len]; omega)) (by first | exact Gwa.out.size | omega) ?_; intro vQ wF ho hg hb; refine list_done ?_; have GwF := Lib.hid (bel_row Gwa.out hg (fun k hk => by have := (BQ.out k hk).1; omega)); have C0wF := (GwF.out.cell (p := ⟨w.heap.size + 2, 0, none⟩) hb3).trans C0.out; have C1wF := (GwF.out.cell (p := ⟨w.heap.size + 2, 1, none⟩) hb3).trans C1.out; have ZwF := hg.size; have OVP := Lib.hid (NP.out.kept hg (blocks_apart' LP.out BQ.out (by omega) (by first | assumption | (simp only [World.drew] at *; omega) | omega))); have OVQ := Lib.hid ho; clear ho hg hb)
        | (refine step_of_list rfl ?_; refine wpList_append_bytes' (v := .slice po X.length pcap) (w := wb) (base := w1.heap.size) (.tmp 81) (.tmp 83) _ rfl rfl i0 _ Tryd.underlying23 HI.out HZ0.out HZ1.out HZ2.out rfl _ (X) r0 rfl rfl (own_mono OPwb.out (by omega)) (show IsB wb _ _ from (HR0.out.below Gwb.out : IsB wb _ _)) (by first | omega | (simp only [keyL_len]; omega)) (by first | exact Gwb.out.size | omega) ?_; intro vP wF ho hg hb; refine list_done ?_; have GwF := Lib.hid (bel_row Gwb.out hg (fun k hk => by have := (BP.out k hk).1; omega)); have C0wF := (GwF.out.cell (p := ⟨w.heap.size + 2, 0, none⟩) hb3).trans C0.out; have C1wF := (GwF.out.cell (p := ⟨w.heap.size + 2, 1, none⟩) hb3).trans C1.out; have ZwF := hg.size; have OVQ := Lib.hid (NQ.out.kept hg (blocks_apart' LQ.out BP.out (by omega) (by first | assumption | (simp only [World.drew] at *; omega) | omega))); have OVP := Lib.hid ho; clear ho hg hb)
        | (refine step_of_list rfl ?_; refine wpList_append_bytes' (v := .slice po X.length pcap) (w := wE.drew) (base := w1.heap.size) (.tmp 81) (.tmp 83) _ rfl rfl i0 _ Tryd.underlying23 HI.out HZ0.out HZ1.out HZ2.out rfl _ (X) r0 rfl rfl (own_mono (show World.ownsRow wE.drew _ _ _ _ _ _ from OPwE.out) (by omega)) (show IsB wE.drew _ _ from (HR0.out.below GwE.out : IsB wE _ _)) (by first | omega | (simp only [keyL_len]; omega)) (by first | exact GwE.out.size | omega) ?_; intro vP wa ho hg hb; refine list_done ?_; have Gwa := Lib.hid (bel_row GwE.out.drew hg (fun k hk => by have := (BP.out k hk).1; omega)); have C0wa := (Gwa.out.cell (p := ⟨w.heap.size + 2, 0, none⟩) hb3).trans C0.out; have C1wa := (Gwa.out.cell (p := ⟨w.heap.size + 2, 1, none⟩) hb3).trans C1.out; have Zwa := hg.size; have OQwa := Lib.hid ((show World.ownsRow wE.drew _ _ _ _ _ _ from OQwE.out).kept hg (blocks_apart BQ.out BP.out (by omega))); have NP := Lib.hid ho; have LP := Lib.hid (fresh_or hb BP.out); clear ho hg hb)
        | (refine step_of_list rfl ?_; refine wpList_append_bytes' (v := .slice qo Y.length qcap) (w := wE.drew) (base := w1.heap.size) (.tmp 85) (.tmp 87) _ rfl rfl i0 _ Tryd.underlying23 HI.out HZ0.out HZ1.out HZ2.out rfl _ (Y) r1 rfl rfl (own_mono (show World.ownsRow wE.drew _ _ _ _ _ _ from OQwE.out) (by omega)) (show IsB wE.drew _ _ from (HR1.out.below GwE.out : IsB wE _ _)) (by first | omega | (simp only [keyL_len]; omega)) (by first | exact GwE.out.size | omega) ?_; intro vQ wb ho hg hb; refine list_done ?_; have Gwb := Lib.hid (bel_row GwE.out.drew hg (fun k hk => by have := (BQ.out k hk).1; omega)); have C0wb := (Gwb.out.cell (p := ⟨w.heap.size + 2, 0, none⟩) hb3).trans C0.out; have C1wb := (Gwb.out.cell (p := ⟨w.heap.size + 2, 1, none⟩) hb3).trans C1.out; have Zwb := hg.size; have OPwb := Lib.hid ((show World.ownsRow wE.drew _ _ _ _ _ _ from OPwE.out).kept hg (blocks_apart BP.out BQ.out (by omega))); have NQ := Lib.hid ho; have LQ := Lib.hid (fresh_or hb BQ.out); clear ho hg hb)
        | (go_at_call 8; have hc := (ccompare_any vP vQ (X ++ r0) (Y ++ r1) wF (IsB.of_own OVP.out (RP.out.append HR0.out.rng)) (IsB.of_own OVQ.out (RQ.out.append HR1.out.rng))); rw [HE2.out] at hc; with_reducible refine Calls.mono hc ?_; clear hc; rintro e w' ⟨rfl, hw'⟩; subst hw'))
    all_goals (
        go_wp2_with fail
        go_ret
        exact ⟨rfl, bel_call Gw1.out GwF.out⟩))
set_option maxRecDepth 100000 in
set_option maxHeartbeats 8000000 in
theorem order_gn (x y : Int) (hx : -9223372036854775808 ≤ x ∧ x ≤ 9223372036854775807) (hy : -9223372036854775808 ≤ y ∧ y ≤ 9223372036854775807) (sv tv r0v r1v : Value) (s t r0 r1 : List Int) (w : World)
    (hs : IsB w sv s) (ht : IsB w tv t) (h0 : IsB w r0v r0) (h1 : IsB w r1v r1) (ls : s.length ≤ 1048576) (lt : t.length ≤ 1048576) (l0 : r0.length ≤ 1048576) (l1 : r1.length ≤ 1048576)
    (hxy : y < x) (hd : cmpB s t ≠ 0) :
    Calls Tryd.prog 3 #[.agg #[.int .i64 x, .int .i64 y], .agg #[sv, tv], .agg #[r0v, r1v]] w (Ret (.bool true) w) := by
  obtain ⟨so, scap, rfl, -, -, -⟩ := hs.form
  obtain ⟨to, tcap, rfl, -, -, -⟩ := ht.form
  obtain ⟨r0o, r0cap, rfl, -, -, -⟩ := h0.form
  obtain ⟨r1o, r1cap, rfl, -, -, -⟩ := h1.form
  obtain ⟨r0v, hr0v⟩ : ∃ v, Value.slice r0o r0.length r0cap = v := ⟨_, rfl⟩
  obtain ⟨r1v, hr1v⟩ : ∃ v, Value.slice r1o r1.length r1cap = v := ⟨_, rfl⟩
  rw [hr0v] at h0 ⊢
  rw [hr1v] at h1 ⊢
  clear hr0v hr1v
  obtain ⟨X, hX⟩ : ∃ X, keyT s = X := ⟨_, rfl⟩
  obtain ⟨Y, hY⟩ : ∃ Y, keyT t = Y := ⟨_, rfl⟩
  have hXl : X.length ≤ 2097154 := by rw [← hX]; unfold keyT; rw [List.length_append, repl_len]; have : s.count 0 ≤ s.length := List.count_le_length; simp; omega
  have hYl : Y.length ≤ 2097154 := by rw [← hY]; unfold keyT; rw [List.length_append, repl_len]; have : t.count 0 ≤ t.length := List.count_le_length; simp; omega
  obtain ⟨c, hc⟩ : ∃ c, cmpB (keyL x) (keyL y) = c := ⟨_, rfl⟩
  obtain ⟨d, hdd⟩ : ∃ d, cmpB s t = d := ⟨_, rfl⟩
  have hcv := cmpB_keyL hx hy
  rw [hc] at hcv
  have hc0 : c = 1 := by rw [hcv, if_neg (by omega), if_pos hxy]
  subst hc0
  have q1 : decide (x < y) = false := decide_eq_false (by omega)
  have q2 : (x == y) = false := beq_eq_false_iff_ne.2 (by omega)
  have hkt : cmpB X Y = d := by rw [← hX, ← hY, cmpB_keyT s t hs.rng ht.rng]; exact hdd
  rw [hdd] at hd
  have he2 : cmpB (X ++ r0) (Y ++ r1) = d := by rw [← hX, ← hY, cmpB_key r0 r1 hs.rng ht.rng (fun e => hd (by rw [← hdd, e, cmpB_refl]))]; exact hdd
  have HE2 := Lib.hid he2
  have q4 : (d != 0) = true := by simp [hd]
  clear he2
  have he1 : cmpB (keyL x ++ r0) (keyL y ++ r1) = 1 := by rw [cmpB_app (l := keyL x) (m := keyL y) r0 r1 rfl (keyL_ne hx hy (by omega))]; exact hc
  have HE1 := Lib.hid he1
  have q3 : (x != y) = true := by simp; omega
  clear he1 hxy hcv
  have HX := Lib.hid hX
  have HY := Lib.hid hY
  have HC := Lib.hid hc
  have HKT := Lib.hid hkt
  have HDD := Lib.hid hdd
  have RA := Lib.hid (keyL_rng hx)
  have RB := Lib.hid (keyL_rng hy)
  have RP := Lib.hid (show Rng X by rw [← hX]; exact keyT_rng hs.rng)
  have RQ := Lib.hid (show Rng Y by rw [← hY]; exact keyT_rng ht.rng)
  have HS0 := Lib.hid hs; have HT0 := Lib.hid ht; have H00 := Lib.hid h0; have H10 := Lib.hid h1
  obtain ⟨i0, hi0, hz0, hz1, hz2⟩ := info_parts infoU8
  have HI := Lib.hid hi0; have HZ0 := Lib.hid hz0; have HZ1 := Lib.hid hz1; have HZ2 := Lib.hid hz2
  clear hi0 hz0 hz1 hz2 hs ht h0 h1 hX hY hc hkt hdd
  go_enter Tryd.func3, Tryd.ntmps3
  go_wp2_with fail
  refine (shown_any _).mono ?_
  rintro e w1 ⟨rfl, g1⟩
  replace k0 : w1.cell? ⟨w.heap.size, 0, none⟩ = some (.int .i64 x) := (g1.cell (p := ⟨w.heap.size, 0, none⟩) (by simp <;> omega)).trans (by go_simp); replace k1 : w1.cell? ⟨w.heap.size, 1, none⟩ = some (.int .i64 y) := (g1.cell (p := ⟨w.heap.size, 1, none⟩) (by simp <;> omega)).trans (by go_simp); replace k2 : w1.cell? ⟨w.heap.size + 1, 0, none⟩ = some (.slice so s.length scap) := (g1.cell (p := ⟨w.heap.size + 1, 0, none⟩) (by simp <;> omega)).trans (by go_simp); replace k3 : w1.cell? ⟨w.heap.size + 1, 1, none⟩ = some (.slice to t.length tcap) := (g1.cell (p := ⟨w.heap.size + 1, 1, none⟩) (by simp <;> omega)).trans (by go_simp); replace k4 : w1.cell? ⟨w.heap.size + 2, 0, none⟩ = some (r0v) := (g1.cell (p := ⟨w.heap.size + 2, 0, none⟩) (by simp <;> omega)).trans (by go_simp); replace k5 : w1.cell? ⟨w.heap.size + 2, 1, none⟩ = some (r1v) := (g1.cell (p := ⟨w.heap.size + 2, 1, none⟩) (by simp <;> omega)).trans (by go_simp)
  have hb3 : w.heap.size + 2 < w1.heap.size := by have := g1.size; simp at this; omega
  have Gw1 := Lib.hid (bel_call (bel_alloc (bel_alloc (bel_alloc (Below.refl _ w) _) _) _) g1)
  have HS := Lib.hid ((((HS0.out.alloc _).alloc _).alloc _).below g1)
  have HT := Lib.hid ((((HT0.out.alloc _).alloc _).alloc _).below g1)
  have HR0 := Lib.hid ((((H00.out.alloc _).alloc _).alloc _).below g1)
  have HR1 := Lib.hid ((((H10.out.alloc _).alloc _).alloc _).below g1)
  have C0 := Lib.hid k4
  have C1 := Lib.hid k5
  clear g1
  go_wp2_with fail
  refine (keyInt_any x w1 hx).mono ?_
  unfold KeyPost
  rintro e w2 ⟨av, rfl, hav, g2⟩
  have OAw2 := Lib.hid hav
  have G2 := Lib.hid g2
  have bA : ∀ k, av.ownBlock = some k → w1.heap.size ≤ k ∧ k < w2.heap.size := fun k hk => hav.lt k hk
  have z2 := g2.size
  obtain ⟨ao, acap, rfl, -, -, -, -⟩ := own_form hav
  have BA := Lib.hid bA
  clear hav g2 bA k0 k1 k2 k3 k4 k5
  go_wp2_with fail
  refine (keyInt_any y w2 hy).mono ?_
  unfold KeyPost
  rintro e w3 ⟨bv, rfl, hbv, g3⟩
  have OBw3 := Lib.hid hbv
  have OAw3 := Lib.hid (own_below OAw2.out g3)
  have G3 := Lib.hid (bel_call G2.out g3)
  have bB : ∀ k, bv.ownBlock = some k → w2.heap.size ≤ k ∧ k < w3.heap.size := fun k hk => hbv.lt k hk
  have z3 := g3.size
  obtain ⟨bo, bcap, rfl, -, -, -, -⟩ := own_form hbv
  have BB := Lib.hid bB
  clear hbv g3 bB
  go_wp2_with fail
  refine (ccompare_any _ _ (keyL x) (keyL y) w3 (IsB.of_own OAw3.out RA.out) (IsB.of_own OBw3.out RB.out)).mono ?_
  rw [HC.out]
  rintro e w' ⟨rfl, hw'⟩
  subst hw'
  go_wp2_with fail
  refine (keyText_any _ s w3 (HS.out.below G3.out) (by omega)).mono ?_
  unfold KeyTPost
  rw [HX.out]
  rintro e w4 ⟨pv, rfl, hpv, g4⟩
  have OPw4 := Lib.hid hpv
  have OAw4 := Lib.hid (own_below OAw3.out g4)
  have OBw4 := Lib.hid (own_below OBw3.out g4)
  have G4 := Lib.hid (bel_call G3.out g4)
  have bP : ∀ k, pv.ownBlock = some k → w3.heap.size ≤ k ∧ k < w4.heap.size := fun k hk => hpv.lt k hk
  have z4 := g4.size
  obtain ⟨po, pcap, rfl, -, -, -, -⟩ := own_form hpv
  have BP := Lib.hid bP
  clear hpv g4 bP
  go_wp2_with fail
  refine (keyText_any _ t w4 (HT.out.below G4.out) (by omega)).mono ?_
  unfold KeyTPost
  rw [HY.out]
  rintro e w5 ⟨qv, rfl, hqv, g5⟩
  have OQw5 := Lib.hid hqv
  have OPw5 := Lib.hid (own_below OPw4.out g5)
  have OAw5 := Lib.hid (own_below OAw4.out g5)
  have OBw5 := Lib.hid (own_below OBw4.out g5)
  have G5 := Lib.hid (bel_call G4.out g5)
  have bQ : ∀ k, qv.ownBlock = some k → w4.heap.size ≤ k ∧ k < w5.heap.size := fun k hk => hqv.lt k hk
  have z5 := g5.size
  obtain ⟨qo, qcap, rfl, -, -, -, -⟩ := own_form hqv
  have BQ := Lib.hid bQ
  clear hqv g5 bQ
  go_wp2_with fail
  refine (ccompare_any _ _ X Y w5 (IsB.of_own OPw5.out RP.out) (IsB.of_own OQw5.out RQ.out)).mono ?_
  rw [HKT.out]
  rintro e w' ⟨rfl, hw'⟩
  subst hw'
  go_wp2_with fail
  refine (rCompare_any _ _ s t w5 (HS.out.below G5.out) (HT.out.below G5.out)).mono ?_
  rw [HDD.out]
  rintro e w6 ⟨rfl, g6⟩
  have Gw6 := Lib.hid (bel_call G5.out g6)
  have OAw6 := Lib.hid (own_below OAw5.out g6)
  have OBw6 := Lib.hid (own_below OBw5.out g6)
  have OPw6 := Lib.hid (own_below OPw5.out g6)
  have OQw6 := Lib.hid (own_below OQw5.out g6)
  have C0w6 := (Gw6.out.cell (p := ⟨w.heap.size + 2, 0, none⟩) hb3).trans C0.out
  have C1w6 := (Gw6.out.cell (p := ⟨w.heap.size + 2, 1, none⟩) hb3).trans C1.out
  have z6 := g6.size
  clear g6
  go_wp2_with fail
  go_region_held3 (fun w' => w'.cell? ⟨w.heap.size + 2, 0, none⟩ = some r0v ∧ w'.cell? ⟨w.heap.size + 2, 1, none⟩ = some r1v) (first | exact ⟨by assumption, by assumption⟩ | go_keep) (first
        | (refine step_of_list rfl ?_; refine wpList_append_bytes' (v := .slice bo 8 bcap) (w := wa) (base := w1.heap.size) (.tmp 71) (.tmp 73) _ rfl rfl i0 _ Tryd.underlying23 HI.out HZ0.out HZ1.out HZ2.out rfl _ ((keyL y)) r1 rfl rfl (own_mono OBwa.out (by omega)) (show IsB wa _ _ from (HR1.out.below Gwa.out : IsB wa _ _)) (by first | omega | (simp only [keyL_len]; omega)) (by first | exact Gwa.out.size | omega) ?_; intro vB wE ho hg hb; refine list_done ?_; have GwE := Lib.hid (bel_row Gwa.out hg (fun k hk => by have := (BB.out k hk).1; omega)); have C0wE := (GwE.out.cell (p := ⟨w.heap.size + 2, 0, none⟩) hb3).trans C0.out; have C1wE := (GwE.out.cell (p := ⟨w.heap.size + 2, 1, none⟩) hb3).trans C1.out; have ZwE := hg.size; have OPwE := Lib.hid (OPwa.out.kept hg (blocks_apart BP.out BB.out (by omega))); have OQwE := Lib.hid (OQwa.out.kept hg (blocks_apart BQ.out BB.out (by omega))); have OVA := Lib.hid (NA.out.kept hg (blocks_apart' LA.out BB.out (by omega) (by first | assumption | (simp only [World.drew] at *; omega) | omega))); have OVB := Lib.hid ho; clear ho hg hb)
        | (refine step_of_list rfl ?_; refine wpList_append_bytes' (v := .slice ao 8 acap) (w := wb) (base := w1.heap.size) (.tmp 67) (.tmp 69) _ rfl rfl i0 _ Tryd.underlying23 HI.out HZ0.out HZ1.out HZ2.out rfl _ ((keyL x)) r0 rfl rfl (own_mono OAwb.out (by omega)) (show IsB wb _ _ from (HR0.out.below Gwb.out : IsB wb _ _)) (by first | omega | (simp only [keyL_len]; omega)) (by first | exact Gwb.out.size | omega) ?_; intro vA wE ho hg hb; refine list_done ?_; have GwE := Lib.hid (bel_row Gwb.out hg (fun k hk => by have := (BA.out k hk).1; omega)); have C0wE := (GwE.out.cell (p := ⟨w.heap.size + 2, 0, none⟩) hb3).trans C0.out; have C1wE := (GwE.out.cell (p := ⟨w.heap.size + 2, 1, none⟩) hb3).trans C1.out; have ZwE := hg.size; have OPwE := Lib.hid (OPwb.out.kept hg (blocks_apart BP.out BA.out (by omega))); have OQwE := Lib.hid (OQwb.out.kept hg (blocks_apart BQ.out BA.out (by omega))); have OVB := Lib.hid (NB.out.kept hg (blocks_apart' LB.out BA.out (by omega) (by first | assumption | (simp only [World.drew] at *; omega) | omega))); have OVA := Lib.hid ho; clear ho hg hb)
        | (refine step_of_list rfl ?_; refine wpList_append_bytes' (v := .slice ao 8 acap) (w := w6.drew) (base := w1.heap.size) (.tmp 67) (.tmp 69) _ rfl rfl i0 _ Tryd.underlying23 HI.out HZ0.out HZ1.out HZ2.out rfl _ ((keyL x)) r0 rfl rfl (own_mono (show World.ownsRow w6.drew _ _ _ _ _ _ from OAw6.out) (by omega)) (show IsB w6.drew _ _ from (HR0.out.below Gw6.out : IsB w6 _ _)) (by first | omega | (simp only [keyL_len]; omega)) (by first | exact Gw6.out.size | omega) ?_; intro vA wa ho hg hb; refine list_done ?_; have Gwa := Lib.hid (bel_row Gw6.out.drew hg (fun k hk => by have := (BA.out k hk).1; omega)); have C0wa := (Gwa.out.cell (p := ⟨w.heap.size + 2, 0, none⟩) hb3).trans C0.out; have C1wa := (Gwa.out.cell (p := ⟨w.heap.size + 2, 1, none⟩) hb3).trans C1.out; have Zwa := hg.size; have OBwa := Lib.hid ((show World.ownsRow w6.drew _ _ _ _ _ _ from OBw6.out).kept hg (blocks_apart BB.out BA.out (by omega))); have OPwa := Lib.hid ((show World.ownsRow w6.drew _ _ _ _ _ _ from OPw6.out).kept hg (blocks_apart BP.out BA.out (by omega))); have OQwa := Lib.hid ((show World.ownsRow w6.drew _ _ _ _ _ _ from OQw6.out).kept hg (blocks_apart BQ.out BA.out (by omega))); have NA := Lib.hid ho; have LA := Lib.hid (fresh_or hb BA.out); clear ho hg hb)
        | (refine step_of_list rfl ?_; refine wpList_append_bytes' (v := .slice bo 8 bcap) (w := w6.drew) (base := w1.heap.size) (.tmp 71) (.tmp 73) _ rfl rfl i0 _ Tryd.underlying23 HI.out HZ0.out HZ1.out HZ2.out rfl _ ((keyL y)) r1 rfl rfl (own_mono (show World.ownsRow w6.drew _ _ _ _ _ _ from OBw6.out) (by omega)) (show IsB w6.drew _ _ from (HR1.out.below Gw6.out : IsB w6 _ _)) (by first | omega | (simp only [keyL_len]; omega)) (by first | exact Gw6.out.size | omega) ?_; intro vB wb ho hg hb; refine list_done ?_; have Gwb := Lib.hid (bel_row Gw6.out.drew hg (fun k hk => by have := (BB.out k hk).1; omega)); have C0wb := (Gwb.out.cell (p := ⟨w.heap.size + 2, 0, none⟩) hb3).trans C0.out; have C1wb := (Gwb.out.cell (p := ⟨w.heap.size + 2, 1, none⟩) hb3).trans C1.out; have Zwb := hg.size; have OAwb := Lib.hid ((show World.ownsRow w6.drew _ _ _ _ _ _ from OAw6.out).kept hg (blocks_apart BA.out BB.out (by omega))); have OPwb := Lib.hid ((show World.ownsRow w6.drew _ _ _ _ _ _ from OPw6.out).kept hg (blocks_apart BP.out BB.out (by omega))); have OQwb := Lib.hid ((show World.ownsRow w6.drew _ _ _ _ _ _ from OQw6.out).kept hg (blocks_apart BQ.out BB.out (by omega))); have NB := Lib.hid ho; have LB := Lib.hid (fresh_or hb BB.out); clear ho hg hb)
        | (go_at_call 8; have hc := (ccompare_any vA vB ((keyL x) ++ r0) ((keyL y) ++ r1) wE (IsB.of_own OVA.out (RA.out.append HR0.out.rng)) (IsB.of_own OVB.out (RB.out.append HR1.out.rng))); rw [HE1.out] at hc; with_reducible refine Calls.mono hc ?_; clear hc; rintro e w' ⟨rfl, hw'⟩; subst hw'))
  all_goals (
    go_wp2_with fail
    go_region_held3 (fun w' => w'.cell? ⟨w.heap.size + 2, 0, none⟩ = some r0v ∧ w'.cell? ⟨w.heap.size + 2, 1, none⟩ = some r1v) (first | exact ⟨by assumption, by assumption⟩ | go_keep) (first
        | (refine step_of_list rfl ?_; refine wpList_append_bytes' (v := .slice qo Y.length qcap) (w := wa) (base := w1.heap.size) (.tmp 85) (.tmp 87) _ rfl rfl i0 _ Tryd.underlying23 HI.out HZ0.out HZ1.out HZ2.out rfl _ (Y) r1 rfl rfl (own_mono OQwa.out (by omega)) (show IsB wa _ _ from (HR1.out.below Gwa.out : IsB wa _ _)) (by first | omega | (simp only [keyL_len]; omega)) (by first | exact Gwa.out.size | omega) ?_; intro vQ wF ho hg hb; refine list_done ?_; have GwF := Lib.hid (bel_row Gwa.out hg (fun k hk => by have := (BQ.out k hk).1; omega)); have C0wF := (GwF.out.cell (p := ⟨w.heap.size + 2, 0, none⟩) hb3).trans C0.out; have C1wF := (GwF.out.cell (p := ⟨w.heap.size + 2, 1, none⟩) hb3).trans C1.out; have ZwF := hg.size; have OVP := Lib.hid (NP.out.kept hg (blocks_apart' LP.out BQ.out (by omega) (by first | assumption | (simp only [World.drew] at *; omega) | omega))); have OVQ := Lib.hid ho; clear ho hg hb)
        | (refine step_of_list rfl ?_; refine wpList_append_bytes' (v := .slice po X.length pcap) (w := wb) (base := w1.heap.size) (.tmp 81) (.tmp 83) _ rfl rfl i0 _ Tryd.underlying23 HI.out HZ0.out HZ1.out HZ2.out rfl _ (X) r0 rfl rfl (own_mono OPwb.out (by omega)) (show IsB wb _ _ from (HR0.out.below Gwb.out : IsB wb _ _)) (by first | omega | (simp only [keyL_len]; omega)) (by first | exact Gwb.out.size | omega) ?_; intro vP wF ho hg hb; refine list_done ?_; have GwF := Lib.hid (bel_row Gwb.out hg (fun k hk => by have := (BP.out k hk).1; omega)); have C0wF := (GwF.out.cell (p := ⟨w.heap.size + 2, 0, none⟩) hb3).trans C0.out; have C1wF := (GwF.out.cell (p := ⟨w.heap.size + 2, 1, none⟩) hb3).trans C1.out; have ZwF := hg.size; have OVQ := Lib.hid (NQ.out.kept hg (blocks_apart' LQ.out BP.out (by omega) (by first | assumption | (simp only [World.drew] at *; omega) | omega))); have OVP := Lib.hid ho; clear ho hg hb)
        | (refine step_of_list rfl ?_; refine wpList_append_bytes' (v := .slice po X.length pcap) (w := wE.drew) (base := w1.heap.size) (.tmp 81) (.tmp 83) _ rfl rfl i0 _ Tryd.underlying23 HI.out HZ0.out HZ1.out HZ2.out rfl _ (X) r0 rfl rfl (own_mono (show World.ownsRow wE.drew _ _ _ _ _ _ from OPwE.out) (by omega)) (show IsB wE.drew _ _ from (HR0.out.below GwE.out : IsB wE _ _)) (by first | omega | (simp only [keyL_len]; omega)) (by first | exact GwE.out.size | omega) ?_; intro vP wa ho hg hb; refine list_done ?_; have Gwa := Lib.hid (bel_row GwE.out.drew hg (fun k hk => by have := (BP.out k hk).1; omega)); have C0wa := (Gwa.out.cell (p := ⟨w.heap.size + 2, 0, none⟩) hb3).trans C0.out; have C1wa := (Gwa.out.cell (p := ⟨w.heap.size + 2, 1, none⟩) hb3).trans C1.out; have Zwa := hg.size; have OQwa := Lib.hid ((show World.ownsRow wE.drew _ _ _ _ _ _ from OQwE.out).kept hg (blocks_apart BQ.out BP.out (by omega))); have NP := Lib.hid ho; have LP := Lib.hid (fresh_or hb BP.out); clear ho hg hb)
        | (refine step_of_list rfl ?_; refine wpList_append_bytes' (v := .slice qo Y.length qcap) (w := wE.drew) (base := w1.heap.size) (.tmp 85) (.tmp 87) _ rfl rfl i0 _ Tryd.underlying23 HI.out HZ0.out HZ1.out HZ2.out rfl _ (Y) r1 rfl rfl (own_mono (show World.ownsRow wE.drew _ _ _ _ _ _ from OQwE.out) (by omega)) (show IsB wE.drew _ _ from (HR1.out.below GwE.out : IsB wE _ _)) (by first | omega | (simp only [keyL_len]; omega)) (by first | exact GwE.out.size | omega) ?_; intro vQ wb ho hg hb; refine list_done ?_; have Gwb := Lib.hid (bel_row GwE.out.drew hg (fun k hk => by have := (BQ.out k hk).1; omega)); have C0wb := (Gwb.out.cell (p := ⟨w.heap.size + 2, 0, none⟩) hb3).trans C0.out; have C1wb := (Gwb.out.cell (p := ⟨w.heap.size + 2, 1, none⟩) hb3).trans C1.out; have Zwb := hg.size; have OPwb := Lib.hid ((show World.ownsRow wE.drew _ _ _ _ _ _ from OPwE.out).kept hg (blocks_apart BP.out BQ.out (by omega))); have NQ := Lib.hid ho; have LQ := Lib.hid (fresh_or hb BQ.out); clear ho hg hb)
        | (go_at_call 8; have hc := (ccompare_any vP vQ (X ++ r0) (Y ++ r1) wF (IsB.of_own OVP.out (RP.out.append HR0.out.rng)) (IsB.of_own OVQ.out (RQ.out.append HR1.out.rng))); rw [HE2.out] at hc; with_reducible refine Calls.mono hc ?_; clear hc; rintro e w' ⟨rfl, hw'⟩; subst hw'))
    all_goals (
        go_wp2_with fail
        go_ret
        exact ⟨rfl, bel_call Gw1.out GwF.out⟩))
theorem order_walk (x y : Int) (hx : -9223372036854775808 ≤ x ∧ x ≤ 9223372036854775807) (hy : -9223372036854775808 ≤ y ∧ y ≤ 9223372036854775807) (sv tv r0v r1v : Value) (s t r0 r1 : List Int) (w : World)
    (hs : IsB w sv s) (ht : IsB w tv t) (h0 : IsB w r0v r0) (h1 : IsB w r1v r1) (ls : s.length ≤ 1048576) (lt : t.length ≤ 1048576) (l0 : r0.length ≤ 1048576) (l1 : r1.length ≤ 1048576) :
    Calls Tryd.prog 3 #[.agg #[.int .i64 x, .int .i64 y], .agg #[sv, tv], .agg #[r0v, r1v]] w (Ret (.bool true) w) := by
  by_cases hd : cmpB s t = 0
  · by_cases h2 : x = y
    · exact order_ee x y hx hy sv tv r0v r1v s t r0 r1 w hs ht h0 h1 ls lt l0 l1 h2 hd
    · by_cases h3 : x < y
      · exact order_le x y hx hy sv tv r0v r1v s t r0 r1 w hs ht h0 h1 ls lt l0 l1 h3 hd
      · exact order_ge x y hx hy sv tv r0v r1v s t r0 r1 w hs ht h0 h1 ls lt l0 l1 (by omega) hd
  · by_cases h2 : x = y
    · exact order_en x y hx hy sv tv r0v r1v s t r0 r1 w hs ht h0 h1 ls lt l0 l1 h2 hd
    · by_cases h3 : x < y
      · exact order_ln x y hx hy sv tv r0v r1v s t r0 r1 w hs ht h0 h1 ls lt l0 l1 h3 hd
      · exact order_gn x y hx hy sv tv r0v r1v s t r0 r1 w hs ht h0 h1 ls lt l0 l1 (by omega) hd
end Codec
end Go.Proofs.YtlolgiphppbcmaaDoor
