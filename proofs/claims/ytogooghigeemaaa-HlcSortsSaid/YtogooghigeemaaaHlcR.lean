/- hlc.Read and the document's answer: nine bytes as a stamp, or refused. -/
import Derived.Test.YtogooghigeemaaaHlcB
import Derived.Test.YtogooghigeemaaaEq
namespace Go.Proofs.Ytogooghigeemaaa
open Go.RowKit
namespace Hlc
theorem ofInt_i64 (a : Nat) (ha : a < 9223372036854775808) : (BitVec.ofInt 64 (a : Int)).toNat = a := by
  rw [BitVec.ofInt_natCast, BitVec.toNat_ofNat]; exact Nat.mod_eq_of_lt (by omega)
theorem i64_or_nat (a b : Nat) (ha : a < 9223372036854775808) (hb : b < 9223372036854775808) : bits .or .i64 (a : Int) (b : Int) = ((a ||| b : Nat) : Int) := by
  have hx : a ||| b < 2 ^ 63 := Nat.or_lt_two_pow (by omega) (by omega)
  show IntKind.i64.wrap ((BitVec.ofInt 64 (a : Int) ||| BitVec.ofInt 64 (b : Int)).toNat : Int) = _
  rw [BitVec.toNat_or, ofInt_i64 a ha, ofInt_i64 b hb, IntKind.wrap_i64]
  omega
/-- a byte put behind a number -/
theorem or_low (a x : Int) (ha : 0 ≤ a ∧ a ≤ 36028797018963967) (hx : 0 ≤ x ∧ x ≤ 255) : bits .or .i64 (a * 256) x = a * 256 + x := by
  obtain ⟨n, rfl⟩ := Int.eq_ofNat_of_zero_le ha.1
  obtain ⟨m, rfl⟩ := Int.eq_ofNat_of_zero_le hx.1
  have h1 : ((n : Int) * 256) = ((n * 256 : Nat) : Int) := by omega
  rw [h1, i64_or_nat _ _ (by omega) (by omega)]
  have h2 : n * 256 ||| m = n * 256 + m := by
    have := Nat.two_pow_add_eq_or_of_lt (i := 8) (b := m) (by omega) n
    rw [Nat.mul_comm]; exact this.symm
  rw [h2]; omega
theorem or_zero (x : Int) (hx : 0 ≤ x ∧ x ≤ 255) : bits .or .i64 0 x = x := by
  have := or_low 0 x (by omega) hx
  simpa using this

/-- the wall of seven bytes -/
def wallL (x0 x1 x2 x3 x4 x5 x6 : Int) : Int := (((((x0 * 256 + x1) * 256 + x2) * 256 + x3) * 256 + x4) * 256 + x5) * 256 + x6

theorem bytesL_wall (x0 x1 x2 x3 x4 x5 x6 x7 x8 : Int) (h0 : 0 ≤ x0 ∧ x0 ≤ 255) (h1 : 0 ≤ x1 ∧ x1 ≤ 255) (h2 : 0 ≤ x2 ∧ x2 ≤ 255)  (h3 : 0 ≤ x3 ∧ x3 ≤ 255) (h4 : 0 ≤ x4 ∧ x4 ≤ 255) (h5 : 0 ≤ x5 ∧ x5 ≤ 255)
    (h6 : 0 ≤ x6 ∧ x6 ≤ 255) (h7 : 0 ≤ x7 ∧ x7 ≤ 255) (h8 : 0 ≤ x8 ∧ x8 ≤ 255) : bytesL (wallL x0 x1 x2 x3 x4 x5 x6) (x7 * 256 + x8) = [x0, x1, x2, x3, x4, x5, x6, x7, x8] := by
  unfold bytesL wallL
  simp only [List.cons.injEq, and_true]
  refine ⟨?_, ?_, ?_, ?_, ?_, ?_, ?_, ?_, ?_⟩ <;> omega
/-- nine bytes as a stamp -/
def readF (x0 x1 x2 x3 x4 x5 x6 x7 x8 : Int) : Int × Int × Int :=
  if right (wallL x0 x1 x2 x3 x4 x5 x6) (x7 * 256 + x8) = true then (wallL x0 x1 x2 x3 x4 x5 x6, x7 * 256 + x8, 0) else (0, 0, 80)

set_option maxHeartbeats 8000000 in
theorem read_ok (p o cap : Nat) (x0 x1 x2 x3 x4 x5 x6 x7 x8 : Int) (w : World) (hcap : 9 ≤ cap) (hp : p < w.heap.size) (hB : Hid (IsB w (.slice (some ⟨p, o, none⟩) 9 cap) [x0, x1, x2, x3, x4, x5, x6, x7, x8]))
  (c0 : w.cell? ⟨p, o, none⟩ = some (.int .u8 x0)) (c1 : w.cell? ⟨p, o + 1, none⟩ = some (.int .u8 x1)) (c2 : w.cell? ⟨p, o + 2, none⟩ = some (.int .u8 x2))
  (c3 : w.cell? ⟨p, o + 3, none⟩ = some (.int .u8 x3)) (c4 : w.cell? ⟨p, o + 4, none⟩ = some (.int .u8 x4)) (c5 : w.cell? ⟨p, o + 5, none⟩ = some (.int .u8 x5))
  (c6 : w.cell? ⟨p, o + 6, none⟩ = some (.int .u8 x6)) (c7 : w.cell? ⟨p, o + 7, none⟩ = some (.int .u8 x7)) (c8 : w.cell? ⟨p, o + 8, none⟩ = some (.int .u8 x8))
  (h0 : 0 ≤ x0 ∧ x0 ≤ 255) (h1 : 0 ≤ x1 ∧ x1 ≤ 255) (h2 : 0 ≤ x2 ∧ x2 ≤ 255)  (h3 : 0 ≤ x3 ∧ x3 ≤ 255) (h4 : 0 ≤ x4 ∧ x4 ≤ 255) (h5 : 0 ≤ x5 ∧ x5 ≤ 255)
  (h6 : 0 ≤ x6 ∧ x6 ≤ 255) (h7 : 0 ≤ x7 ∧ x7 ≤ 255) (h8 : 0 ≤ x8 ∧ x8 ≤ 255) :
    Calls Try.prog 12 #[.slice (some ⟨p, o, none⟩) 9 cap] w (Ret (vse (readF x0 x1 x2 x3 x4 x5 x6 x7 x8)) w) := by
  have e0 := or_zero x0 h0
  have e1 := or_low x0 x1 (by omega) h1
  have e2 := or_low (x0 * 256 + x1) x2 (by omega) h2
  have e3 := or_low ((x0 * 256 + x1) * 256 + x2) x3 (by omega) h3
  have e4 := or_low (((x0 * 256 + x1) * 256 + x2) * 256 + x3) x4 (by omega) h4
  have e5 := or_low ((((x0 * 256 + x1) * 256 + x2) * 256 + x3) * 256 + x4) x5 (by omega) h5
  have e6 := or_low (((((x0 * 256 + x1) * 256 + x2) * 256 + x3) * 256 + x4) * 256 + x5) x6 (by omega) h6
  have e7 := or_low x7 x8 (by omega) h8
  by_cases hr : right (wallL x0 x1 x2 x3 x4 x5 x6) (x7 * 256 + x8) = true
  · have ef : readF x0 x1 x2 x3 x4 x5 x6 x7 x8 = (wallL x0 x1 x2 x3 x4 x5 x6, x7 * 256 + x8, 0) := by unfold readF; rw [if_pos hr]
    have EL := Lib.hid (bytesL_wall x0 x1 x2 x3 x4 x5 x6 x7 x8 h0 h1 h2 h3 h4 h5 h6 h7 h8)
    rw [ef]; clear ef
    have HR := Lib.hid hr
    clear hr
    go_enter Try.func12, Try.ntmps12
    go_wp2_with fail
    refine wp_loop_rounds 8 ?_
    rw [rounds_succ]; go_wp2_with fail
    rw [rounds_succ]; go_wp2_with fail
    rw [rounds_succ]; go_wp2_with fail
    rw [rounds_succ]; go_wp2_with fail
    rw [rounds_succ]; go_wp2_with fail
    rw [rounds_succ]; go_wp2_with fail
    rw [rounds_succ]; go_wp2_with fail
    rw [rounds_succ]; go_wp2_with fail
    refine wp_region_still_tail 11 (by kernel_rfl) (by kernel_rfl) ?_
    show wpStill _ _ (World.drew _) _ _ _
    simp only [List.take_succ_cons, List.take_zero, List.drop_succ_cons, List.drop_zero]
    still_step; still_step; still_step; still_step; still_step; still_step; still_step; still_step; still_step; still_step; still_step
    refine wpStill_nil ?_
    show wpList _ _ _ _ _ (World.drew _)
    go_wp2_with fail
    clear e0 e1 e2 e3 e4 e5 e6 e7 c0 c1 c2 c3 c4 c5 c6 c7 c8
    refine (bytes_ok _ _ _ HR.out).mono ?_
    rintro e w1 ⟨v, rfl, own, hb1⟩
    have z1 := hb1.size; (try simp at z1)
    replace k0 : w1.cell? ⟨w.heap.size, 0, none⟩ = some (.int .i64 0) := (hb1.cell (p := ⟨w.heap.size, 0, none⟩) (by simp <;> omega)).trans (by go_simp); replace k0f : w1.frozen? ⟨w.heap.size, 0, none⟩ = false := (hb1.frozen (p := ⟨w.heap.size, 0, none⟩) (by simp <;> omega)).trans (by go_simp); replace k1 : w1.cell? ⟨w.heap.size, 1, none⟩ = some (.int .i64 0) := (hb1.cell (p := ⟨w.heap.size, 1, none⟩) (by simp <;> omega)).trans (by go_simp); replace k1f : w1.frozen? ⟨w.heap.size, 1, none⟩ = false := (hb1.frozen (p := ⟨w.heap.size, 1, none⟩) (by simp <;> omega)).trans (by go_simp); replace k2 : w1.cell? ⟨w.heap.size+1, 0, none⟩ = some (.int .i64 ((((((x0 * 256 + x1) * 256 + x2) * 256 + x3) * 256 + x4) * 256 + x5) * 256 + x6)) := (hb1.cell (p := ⟨w.heap.size+1, 0, none⟩) (by simp <;> omega)).trans (by go_simp); replace k2f : w1.frozen? ⟨w.heap.size+1, 0, none⟩ = false := (hb1.frozen (p := ⟨w.heap.size+1, 0, none⟩) (by simp <;> omega)).trans (by go_simp); replace k3 : w1.cell? ⟨w.heap.size+1, 1, none⟩ = some (.int .i64 (x7 * 256 + x8)) := (hb1.cell (p := ⟨w.heap.size+1, 1, none⟩) (by simp <;> omega)).trans (by go_simp); replace k3f : w1.frozen? ⟨w.heap.size+1, 1, none⟩ = false := (hb1.frozen (p := ⟨w.heap.size+1, 1, none⟩) (by simp <;> omega)).trans (by go_simp)
    have g1 : Below w.heap.size w w1 := (by repeat' (first | (with_reducible exact Below.refl _ _) | (with_reducible assumption) | (with_reducible refine Below.drew ?_) | (with_reducible refine below_drewN ?_ _) | (with_reducible refine bel_alloc ?_ _) | (with_reducible refine Below.setCell ?_ ?_ _) | (with_reducible refine bel_call ?_ (by assumption)) | (simp <;> omega)))
    have B1 := IsB.of_own own (bytesL_rng HR.out)
    have B2 := hB.out.below g1
    have EQ := Lib.hid (bytesEqual_any v _ _ _ w1 B1 B2)
    clear B1 B2 own hb1
    go_wp2_with fail
    refine (EQ.out).mono ?_
    rintro e w2 ⟨rfl, rfl⟩
    have ed : decide (bytesL (wallL x0 x1 x2 x3 x4 x5 x6) (x7 * 256 + x8) = [x0, x1, x2, x3, x4, x5, x6, x7, x8]) = true := decide_eq_true EL.out
    rw [ed]
    clear ed EQ
    go_wp2_with fail
    exact bodyPost_ret (v := vse (wallL x0 x1 x2 x3 x4 x5 x6, x7 * 256 + x8, 0)) (by simp [results, Try.results12, go_sem, k0, k1, vse, wallL]) rfl ⟨rfl, (by repeat' (first | (with_reducible exact Below.refl _ _) | (with_reducible assumption) | (with_reducible refine Below.drew ?_) | (with_reducible refine below_drewN ?_ _) | (with_reducible refine bel_alloc ?_ _) | (with_reducible refine Below.setCell ?_ ?_ _) | (with_reducible refine bel_call ?_ (by assumption)) | (simp <;> omega)))⟩
  · have hr1 : right (wallL x0 x1 x2 x3 x4 x5 x6) (x7 * 256 + x8) = false := by simpa using hr
    have ef : readF x0 x1 x2 x3 x4 x5 x6 x7 x8 = (0, 0, 80) := by unfold readF; rw [if_neg hr]
    rw [ef]; clear ef hr
    have HR := Lib.hid hr1
    clear hr1
    go_enter Try.func12, Try.ntmps12
    go_wp2_with fail
    refine wp_loop_rounds 8 ?_
    rw [rounds_succ]; go_wp2_with fail
    rw [rounds_succ]; go_wp2_with fail
    rw [rounds_succ]; go_wp2_with fail
    rw [rounds_succ]; go_wp2_with fail
    rw [rounds_succ]; go_wp2_with fail
    rw [rounds_succ]; go_wp2_with fail
    rw [rounds_succ]; go_wp2_with fail
    rw [rounds_succ]; go_wp2_with fail
    refine wp_region_still_tail 11 (by kernel_rfl) (by kernel_rfl) ?_
    show wpStill _ _ (World.drew _) _ _ _
    simp only [List.take_succ_cons, List.take_zero, List.drop_succ_cons, List.drop_zero]
    still_step; still_step; still_step; still_step; still_step; still_step; still_step; still_step; still_step; still_step; still_step
    refine wpStill_nil ?_
    show wpList _ _ _ _ _ (World.drew _)
    go_wp2_with fail
    clear e0 e1 e2 e3 e4 e5 e6 e7 c0 c1 c2 c3 c4 c5 c6 c7 c8
    refine (bytes_bad _ _ _ HR.out).mono ?_
    rintro e w1 ⟨rfl, hb1⟩
    have z1 := hb1.size; (try simp at z1)
    replace k0 : w1.cell? ⟨w.heap.size, 0, none⟩ = some (.int .i64 0) := (hb1.cell (p := ⟨w.heap.size, 0, none⟩) (by simp <;> omega)).trans (by go_simp); replace k0f : w1.frozen? ⟨w.heap.size, 0, none⟩ = false := (hb1.frozen (p := ⟨w.heap.size, 0, none⟩) (by simp <;> omega)).trans (by go_simp); replace k1 : w1.cell? ⟨w.heap.size, 1, none⟩ = some (.int .i64 0) := (hb1.cell (p := ⟨w.heap.size, 1, none⟩) (by simp <;> omega)).trans (by go_simp); replace k1f : w1.frozen? ⟨w.heap.size, 1, none⟩ = false := (hb1.frozen (p := ⟨w.heap.size, 1, none⟩) (by simp <;> omega)).trans (by go_simp)
    have g1 : Below w.heap.size w w1 := (by repeat' (first | (with_reducible exact Below.refl _ _) | (with_reducible assumption) | (with_reducible refine Below.drew ?_) | (with_reducible refine below_drewN ?_ _) | (with_reducible refine bel_alloc ?_ _) | (with_reducible refine Below.setCell ?_ ?_ _) | (with_reducible refine bel_call ?_ (by assumption)) | (simp <;> omega)))
    clear hb1
    go_wp2_with fail
    exact bodyPost_ret (v := vse (0, 0, 80)) (by simp [results, Try.results12, go_sem, k0, k1, vse]) rfl ⟨rfl, (by repeat' (first | (with_reducible exact Below.refl _ _) | (with_reducible assumption) | (with_reducible refine Below.drew ?_) | (with_reducible refine below_drewN ?_ _) | (with_reducible refine bel_alloc ?_ _) | (with_reducible refine Below.setCell ?_ ?_ _) | (with_reducible refine bel_call ?_ (by assumption)) | (simp <;> omega)))⟩

set_option maxHeartbeats 8000000 in
theorem rRead_ok (p o cap : Nat) (x0 x1 x2 x3 x4 x5 x6 x7 x8 : Int) (w : World) (hcap : 9 ≤ cap) (hp : p < w.heap.size) (hB : Hid (IsB w (.slice (some ⟨p, o, none⟩) 9 cap) [x0, x1, x2, x3, x4, x5, x6, x7, x8]))
  (c0 : w.cell? ⟨p, o, none⟩ = some (.int .u8 x0)) (c1 : w.cell? ⟨p, o + 1, none⟩ = some (.int .u8 x1)) (c2 : w.cell? ⟨p, o + 2, none⟩ = some (.int .u8 x2))
  (c3 : w.cell? ⟨p, o + 3, none⟩ = some (.int .u8 x3)) (c4 : w.cell? ⟨p, o + 4, none⟩ = some (.int .u8 x4)) (c5 : w.cell? ⟨p, o + 5, none⟩ = some (.int .u8 x5))
  (c6 : w.cell? ⟨p, o + 6, none⟩ = some (.int .u8 x6)) (c7 : w.cell? ⟨p, o + 7, none⟩ = some (.int .u8 x7)) (c8 : w.cell? ⟨p, o + 8, none⟩ = some (.int .u8 x8))
  (h0 : 0 ≤ x0 ∧ x0 ≤ 255) (h1 : 0 ≤ x1 ∧ x1 ≤ 255) (h2 : 0 ≤ x2 ∧ x2 ≤ 255)  (h3 : 0 ≤ x3 ∧ x3 ≤ 255) (h4 : 0 ≤ x4 ∧ x4 ≤ 255) (h5 : 0 ≤ x5 ∧ x5 ≤ 255)
  (h6 : 0 ≤ x6 ∧ x6 ≤ 255) (h7 : 0 ≤ x7 ∧ x7 ≤ 255) (h8 : 0 ≤ x8 ∧ x8 ≤ 255) :
    Calls Try.prog 13 #[.slice (some ⟨p, o, none⟩) 9 cap] w (Ret (vse (readF x0 x1 x2 x3 x4 x5 x6 x7 x8)) w) := by
  clear hB
  by_cases hr : right (wallL x0 x1 x2 x3 x4 x5 x6) (x7 * 256 + x8) = true
  · have ef : readF x0 x1 x2 x3 x4 x5 x6 x7 x8 = (wallL x0 x1 x2 x3 x4 x5 x6, x7 * 256 + x8, 0) := by unfold readF; rw [if_pos hr]
    rw [ef]; clear ef
    have hr1 : (!right ((((((x0 * 256 + x1) * 256 + x2) * 256 + x3) * 256 + x4) * 256 + x5) * 256 + x6) (x7 * 256 + x8)) = false := by simpa [wallL] using hr
    clear hr
    go_enter Try.func13, Try.ntmps13
    go_wp2_with fail
    refine wp_loop_rounds 8 ?_
    rw [rounds_succ]; go_wp2_with fail
    rw [rounds_succ]; go_wp2_with fail
    rw [rounds_succ]; go_wp2_with fail
    rw [rounds_succ]; go_wp2_with fail
    rw [rounds_succ]; go_wp2_with fail
    rw [rounds_succ]; go_wp2_with fail
    rw [rounds_succ]; go_wp2_with fail
    rw [rounds_succ]; go_wp2_with fail
    go_region
    go_wp2_with fail
    refine (rRight_any _ _ _).mono ?_
    rintro e w1 ⟨rfl, hb1⟩
    have z1 := hb1.size; (try simp at z1)
    replace k0 : w1.cell? ⟨w.heap.size, 0, none⟩ = some (.int .i64 0) := (hb1.cell (p := ⟨w.heap.size, 0, none⟩) (by simp <;> omega)).trans (by go_simp); replace k0f : w1.frozen? ⟨w.heap.size, 0, none⟩ = false := (hb1.frozen (p := ⟨w.heap.size, 0, none⟩) (by simp <;> omega)).trans (by go_simp); replace k1 : w1.cell? ⟨w.heap.size, 1, none⟩ = some (.int .i64 0) := (hb1.cell (p := ⟨w.heap.size, 1, none⟩) (by simp <;> omega)).trans (by go_simp); replace k1f : w1.frozen? ⟨w.heap.size, 1, none⟩ = false := (hb1.frozen (p := ⟨w.heap.size, 1, none⟩) (by simp <;> omega)).trans (by go_simp); replace k2 : w1.cell? ⟨w.heap.size+1, 0, none⟩ = some (.int .i64 ((((((x0 * 256 + x1) * 256 + x2) * 256 + x3) * 256 + x4) * 256 + x5) * 256 + x6)) := (hb1.cell (p := ⟨w.heap.size+1, 0, none⟩) (by simp <;> omega)).trans (by go_simp); replace k2f : w1.frozen? ⟨w.heap.size+1, 0, none⟩ = false := (hb1.frozen (p := ⟨w.heap.size+1, 0, none⟩) (by simp <;> omega)).trans (by go_simp); replace k3 : w1.cell? ⟨w.heap.size+1, 1, none⟩ = some (.int .i64 (x7 * 256 + x8)) := (hb1.cell (p := ⟨w.heap.size+1, 1, none⟩) (by simp <;> omega)).trans (by go_simp); replace k3f : w1.frozen? ⟨w.heap.size+1, 1, none⟩ = false := (hb1.frozen (p := ⟨w.heap.size+1, 1, none⟩) (by simp <;> omega)).trans (by go_simp)
    have g1 : Below w.heap.size w w1 := (by repeat' (first | (with_reducible exact Below.refl _ _) | (with_reducible assumption) | (with_reducible refine Below.drew ?_) | (with_reducible refine below_drewN ?_ _) | (with_reducible refine bel_alloc ?_ _) | (with_reducible refine Below.setCell ?_ ?_ _) | (with_reducible refine bel_call ?_ (by assumption)) | (simp <;> omega)))
    clear hb1
    go_wp2_with fail
    exact bodyPost_ret (v := vse (wallL x0 x1 x2 x3 x4 x5 x6, x7 * 256 + x8, 0)) (by simp [results, Try.results13, go_sem, k0, k1, vse, wallL]) rfl ⟨rfl, (by repeat' (first | (with_reducible exact Below.refl _ _) | (with_reducible assumption) | (with_reducible refine Below.drew ?_) | (with_reducible refine below_drewN ?_ _) | (with_reducible refine bel_alloc ?_ _) | (with_reducible refine Below.setCell ?_ ?_ _) | (with_reducible refine bel_call ?_ (by assumption)) | (simp <;> omega)))⟩
  · have ef : readF x0 x1 x2 x3 x4 x5 x6 x7 x8 = (0, 0, 80) := by unfold readF; rw [if_neg hr]
    rw [ef]; clear ef
    have hr1 : (!right ((((((x0 * 256 + x1) * 256 + x2) * 256 + x3) * 256 + x4) * 256 + x5) * 256 + x6) (x7 * 256 + x8)) = true := by simpa [wallL] using hr
    clear hr
    go_enter Try.func13, Try.ntmps13
    go_wp2_with fail
    refine wp_loop_rounds 8 ?_
    rw [rounds_succ]; go_wp2_with fail
    rw [rounds_succ]; go_wp2_with fail
    rw [rounds_succ]; go_wp2_with fail
    rw [rounds_succ]; go_wp2_with fail
    rw [rounds_succ]; go_wp2_with fail
    rw [rounds_succ]; go_wp2_with fail
    rw [rounds_succ]; go_wp2_with fail
    rw [rounds_succ]; go_wp2_with fail
    go_region
    go_wp2_with fail
    refine (rRight_any _ _ _).mono ?_
    rintro e w1 ⟨rfl, hb1⟩
    have z1 := hb1.size; (try simp at z1)
    replace k0 : w1.cell? ⟨w.heap.size, 0, none⟩ = some (.int .i64 0) := (hb1.cell (p := ⟨w.heap.size, 0, none⟩) (by simp <;> omega)).trans (by go_simp); replace k0f : w1.frozen? ⟨w.heap.size, 0, none⟩ = false := (hb1.frozen (p := ⟨w.heap.size, 0, none⟩) (by simp <;> omega)).trans (by go_simp); replace k1 : w1.cell? ⟨w.heap.size, 1, none⟩ = some (.int .i64 0) := (hb1.cell (p := ⟨w.heap.size, 1, none⟩) (by simp <;> omega)).trans (by go_simp); replace k1f : w1.frozen? ⟨w.heap.size, 1, none⟩ = false := (hb1.frozen (p := ⟨w.heap.size, 1, none⟩) (by simp <;> omega)).trans (by go_simp); replace k2 : w1.cell? ⟨w.heap.size+1, 0, none⟩ = some (.int .i64 ((((((x0 * 256 + x1) * 256 + x2) * 256 + x3) * 256 + x4) * 256 + x5) * 256 + x6)) := (hb1.cell (p := ⟨w.heap.size+1, 0, none⟩) (by simp <;> omega)).trans (by go_simp); replace k2f : w1.frozen? ⟨w.heap.size+1, 0, none⟩ = false := (hb1.frozen (p := ⟨w.heap.size+1, 0, none⟩) (by simp <;> omega)).trans (by go_simp); replace k3 : w1.cell? ⟨w.heap.size+1, 1, none⟩ = some (.int .i64 (x7 * 256 + x8)) := (hb1.cell (p := ⟨w.heap.size+1, 1, none⟩) (by simp <;> omega)).trans (by go_simp); replace k3f : w1.frozen? ⟨w.heap.size+1, 1, none⟩ = false := (hb1.frozen (p := ⟨w.heap.size+1, 1, none⟩) (by simp <;> omega)).trans (by go_simp)
    have g1 : Below w.heap.size w w1 := (by repeat' (first | (with_reducible exact Below.refl _ _) | (with_reducible assumption) | (with_reducible refine Below.drew ?_) | (with_reducible refine below_drewN ?_ _) | (with_reducible refine bel_alloc ?_ _) | (with_reducible refine Below.setCell ?_ ?_ _) | (with_reducible refine bel_call ?_ (by assumption)) | (simp <;> omega)))
    clear hb1
    go_wp2_with fail
    exact bodyPost_ret (v := vse (0, 0, 80)) (by simp [results, Try.results13, go_sem, k0, k1, vse]) rfl ⟨rfl, (by repeat' (first | (with_reducible exact Below.refl _ _) | (with_reducible assumption) | (with_reducible refine Below.drew ?_) | (with_reducible refine below_drewN ?_ _) | (with_reducible refine bel_alloc ?_ _) | (with_reducible refine Below.setCell ?_ ?_ _) | (with_reducible refine bel_call ?_ (by assumption)) | (simp <;> omega)))⟩

set_option maxHeartbeats 400000 in
/-- what is no list of nine is refused -/
theorem read_bad (v : Value) (l : List Int) (w : World) (h : IsB w v l) (hl : l.length ≠ 9) :
    Calls Try.prog 12 #[v] w (Ret (vse (0, 0, 80)) w) := by
  obtain ⟨_, ao, cap, rfl, _, _, _, _⟩ := h
  have h1 : (((l.length : Nat) : Int) != 9) = true := by rw [bne_iff_ne]; omega
  go_enter Try.func12, Try.ntmps12
  go_wp2_with fail
  exact bodyPost_ret (v := vse (0, 0, 80)) (by simp [results, Try.results12, go_sem, vse]) rfl ⟨rfl, (by repeat' (first | (with_reducible exact Below.refl _ _) | (with_reducible assumption) | (with_reducible refine Below.drew ?_) | (with_reducible refine below_drewN ?_ _) | (with_reducible refine bel_alloc ?_ _) | (with_reducible refine Below.setCell ?_ ?_ _) | (with_reducible refine bel_call ?_ (by assumption)) | (simp <;> omega)))⟩
set_option maxHeartbeats 400000 in
theorem rRead_bad (v : Value) (l : List Int) (w : World) (h : IsB w v l) (hl : l.length ≠ 9) :
    Calls Try.prog 13 #[v] w (Ret (vse (0, 0, 80)) w) := by
  obtain ⟨_, ao, cap, rfl, _, _, _, _⟩ := h
  have h1 : (((l.length : Nat) : Int) != 9) = true := by rw [bne_iff_ne]; omega
  go_enter Try.func13, Try.ntmps13
  go_wp2_with fail
  exact bodyPost_ret (v := vse (0, 0, 80)) (by simp [results, Try.results13, go_sem, vse]) rfl ⟨rfl, (by repeat' (first | (with_reducible exact Below.refl _ _) | (with_reducible assumption) | (with_reducible refine Below.drew ?_) | (with_reducible refine below_drewN ?_ _) | (with_reducible refine bel_alloc ?_ _) | (with_reducible refine Below.setCell ?_ ?_ _) | (with_reducible refine bel_call ?_ (by assumption)) | (simp <;> omega)))⟩
end Hlc
end Go.Proofs.Ytogooghigeemaaa
