/- The walk of HlcPasses. -/
import Derived.Test.YtogooghigeemaaaHlcNow
namespace Go.Proofs.Ytogooghigeemaaa
open Go.RowKit
namespace Hlc
theorem nowR_zero {t : Int} (ht : isWall t = true) : nowR 0 0 t = if 0 < t then (t, 0, 0) else (0, 1, 0) := by
  have hb : 0 ≤ t ∧ t ≤ 9007199254740991 := by simpa [isWall] using ht
  unfold nowR
  rw [if_neg (by simp [ht])]
  by_cases h : 0 < t
  · rw [if_pos (by simp [cmpS, orI, cmpI, h]; omega), if_pos h]
  · have : t = 0 := by omega
    subst this
    decide
set_option maxHeartbeats 2000000 in
theorem passes_nowall (off a b x y : Int) (w : World) (h : isWall off = false) :
    Calls Try.prog 5 #[.int .i64 off, .agg #[.int .i64 a, .int .i64 b], .agg #[.int .i64 x, .int .i64 y]] w (Ret (.bool true) w) := by
  have h1 : (!isWall off) = true := by simp [h]
  go_enter Try.func5, Try.ntmps5
  go_wp2_with fail
  refine (awake_any _).mono ?_
  rintro e w1 ⟨rfl, hb1⟩
  replace k0 : w1.cell? ⟨w.heap.size, 0, none⟩ = some (.int .i64 a) := (hb1.cell (p := ⟨w.heap.size, 0, none⟩) (by simp <;> omega)).trans (by go_simp); replace k1 : w1.cell? ⟨w.heap.size, 1, none⟩ = some (.int .i64 b) := (hb1.cell (p := ⟨w.heap.size, 1, none⟩) (by simp <;> omega)).trans (by go_simp); replace k2 : w1.cell? ⟨w.heap.size+1, 0, none⟩ = some (.int .i64 x) := (hb1.cell (p := ⟨w.heap.size+1, 0, none⟩) (by simp <;> omega)).trans (by go_simp); replace k3 : w1.cell? ⟨w.heap.size+1, 1, none⟩ = some (.int .i64 y) := (hb1.cell (p := ⟨w.heap.size+1, 1, none⟩) (by simp <;> omega)).trans (by go_simp)
  have z1 := hb1.size; (try simp at z1)
  have zz : w.heap.size ≤ w1.heap.size := by omega
  replace y0 : w.heap.size < w1.heap.size := by omega
  replace y1 : w.heap.size+1 < w1.heap.size := by omega
  replace gg : Below w.heap.size w w1 := (by repeat' (first | (with_reducible exact Below.refl _ _) | (with_reducible assumption) | (with_reducible refine Below.drew ?_) | (with_reducible refine below_drewN ?_ _) | (with_reducible refine bel_alloc ?_ _) | (with_reducible refine Below.setCell ?_ ?_ _) | (with_reducible refine bel_call ?_ (by assumption)) | (simp <;> omega)))
  clear hb1
  go_wp2_with fail
  refine (new_bad off _ h).mono ?_
  rintro e w2 ⟨rfl, rfl⟩
  go_wp2_with fail
  refine (new_bad off _ h).mono ?_
  rintro e w2 ⟨rfl, rfl⟩
  go_wp2_with (first | (go_at_call 23; refine (rIsWall_any _ _).mono ?_; rintro e w' ⟨rfl, rfl⟩))
  go_ret
  exact ⟨rfl, gg⟩
set_option maxHeartbeats 2000000 in
theorem passes1 (off a b x y : Int) (w : World) (h : isWall off = true) (hp : passed off a b x = false) : Calls Try.prog 5 #[.int .i64 off, .agg #[.int .i64 a, .int .i64 b], .agg #[.int .i64 x, .int .i64 y]] w (Ret (.bool true) w) := by
  have hp1 : (!passed off a b x) = true := by simp [hp]
  have h1 : (!isWall off) = false := by simp [h]
  go_enter Try.func5, Try.ntmps5
  go_wp2_with fail
  refine (awake_any _).mono ?_
  rintro e w1 ⟨rfl, hb1⟩
  replace k0 : w1.cell? ⟨w.heap.size, 0, none⟩ = some (.int .i64 a) := (hb1.cell (p := ⟨w.heap.size, 0, none⟩) (by simp <;> omega)).trans (by go_simp); replace k1 : w1.cell? ⟨w.heap.size, 1, none⟩ = some (.int .i64 b) := (hb1.cell (p := ⟨w.heap.size, 1, none⟩) (by simp <;> omega)).trans (by go_simp); replace k2 : w1.cell? ⟨w.heap.size+1, 0, none⟩ = some (.int .i64 x) := (hb1.cell (p := ⟨w.heap.size+1, 0, none⟩) (by simp <;> omega)).trans (by go_simp); replace k3 : w1.cell? ⟨w.heap.size+1, 1, none⟩ = some (.int .i64 y) := (hb1.cell (p := ⟨w.heap.size+1, 1, none⟩) (by simp <;> omega)).trans (by go_simp)
  have z1 := hb1.size; (try simp at z1)
  have zz : w.heap.size ≤ w1.heap.size := by omega
  replace y0 : w.heap.size < w1.heap.size := by omega
  replace y1 : w.heap.size+1 < w1.heap.size := by omega
  replace gg : Below w.heap.size w w1 := (by repeat' (first | (with_reducible exact Below.refl _ _) | (with_reducible assumption) | (with_reducible refine Below.drew ?_) | (with_reducible refine below_drewN ?_ _) | (with_reducible refine bel_alloc ?_ _) | (with_reducible refine Below.setCell ?_ ?_ _) | (with_reducible refine bel_call ?_ (by assumption)) | (simp <;> omega)))
  clear hb1
  go_wp2_with fail
  refine (new_ok off _ h).mono ?_
  rintro e w2 ⟨rfl, rfl⟩
  go_wp2_with fail
  refine (new_ok off _ h).mono ?_
  rintro e w2 ⟨rfl, rfl⟩
  go_wp2_with (first | (go_at_call 23; refine (rIsWall_any _ _).mono ?_; rintro e w' ⟨rfl, rfl⟩))
  refine (passed_any w1.heap.size off 0 0 a b x _ ⟨by simp <;> omega, by go_simp, by go_simp, by go_simp, by go_simp, by go_simp⟩ h).mono ?_
  rintro e w3 ⟨rfl, hb3⟩
  replace k0 : w3.cell? ⟨w.heap.size, 0, none⟩ = some (.int .i64 a) := (hb3.cell (p := ⟨w.heap.size, 0, none⟩) (by simp <;> omega)).trans (by go_simp); replace k1 : w3.cell? ⟨w.heap.size, 1, none⟩ = some (.int .i64 b) := (hb3.cell (p := ⟨w.heap.size, 1, none⟩) (by simp <;> omega)).trans (by go_simp); replace k2 : w3.cell? ⟨w.heap.size+1, 0, none⟩ = some (.int .i64 x) := (hb3.cell (p := ⟨w.heap.size+1, 0, none⟩) (by simp <;> omega)).trans (by go_simp); replace k3 : w3.cell? ⟨w.heap.size+1, 1, none⟩ = some (.int .i64 y) := (hb3.cell (p := ⟨w.heap.size+1, 1, none⟩) (by simp <;> omega)).trans (by go_simp)
  replace q0 : w3.cell? ⟨w1.heap.size+1, 0, none⟩ = some (.int .i64 off) := (hb3.cell (p := ⟨w1.heap.size+1, 0, none⟩) (by simp <;> omega)).trans (by go_simp)
  replace r0 : w3.cell? ⟨w1.heap.size+1, 1, none⟩ = some (.int .i64 0) := (hb3.cell (p := ⟨w1.heap.size+1, 1, none⟩) (by simp <;> omega)).trans (by go_simp); replace r0f : w3.frozen? ⟨w1.heap.size+1, 1, none⟩ = false := (hb3.frozen (p := ⟨w1.heap.size+1, 1, none⟩) (by simp <;> omega)).trans (by go_simp); replace r1 : w3.cell? ⟨w1.heap.size+1, 2, none⟩ = some (.int .i64 0) := (hb3.cell (p := ⟨w1.heap.size+1, 2, none⟩) (by simp <;> omega)).trans (by go_simp); replace r1f : w3.frozen? ⟨w1.heap.size+1, 2, none⟩ = false := (hb3.frozen (p := ⟨w1.heap.size+1, 2, none⟩) (by simp <;> omega)).trans (by go_simp)
  have z3 := hb3.size; (try simp at z3)
  replace gg : Below w.heap.size w w3 := (by repeat' (first | (with_reducible exact Below.refl _ _) | (with_reducible assumption) | (with_reducible refine Below.drew ?_) | (with_reducible refine below_drewN ?_ _) | (with_reducible refine bel_alloc ?_ _) | (with_reducible refine Below.setCell ?_ ?_ _) | (with_reducible refine bel_call ?_ (by assumption)) | (simp <;> omega)))
  replace y0 : w.heap.size < w3.heap.size := by omega
  replace y1 : w.heap.size + 1 < w3.heap.size := by omega
  have y2 : w1.heap.size + 1 < w3.heap.size := by omega
  have y3 : w.heap.size + 1 < w1.heap.size + 1 := by omega
  clear hb3
  go_wp2_with fail
  go_ret
  exact ⟨rfl, gg⟩
set_option maxHeartbeats 2000000 in
theorem passes2 (off a b x y : Int) (w : World) (h : isWall off = true) (hp : passed off a b x = true) (hy : isWall y = false) : Calls Try.prog 5 #[.int .i64 off, .agg #[.int .i64 a, .int .i64 b], .agg #[.int .i64 x, .int .i64 y]] w (Ret (.bool true) w) := by
  have hp1 : (!passed off a b x) = false := by simp [hp]
  have hy1 : (!isWall y) = true := by simp [hy]
  clear hp hy
  have h1 : (!isWall off) = false := by simp [h]
  go_enter Try.func5, Try.ntmps5
  go_wp2_with fail
  refine (awake_any _).mono ?_
  rintro e w1 ⟨rfl, hb1⟩
  replace k0 : w1.cell? ⟨w.heap.size, 0, none⟩ = some (.int .i64 a) := (hb1.cell (p := ⟨w.heap.size, 0, none⟩) (by simp <;> omega)).trans (by go_simp); replace k1 : w1.cell? ⟨w.heap.size, 1, none⟩ = some (.int .i64 b) := (hb1.cell (p := ⟨w.heap.size, 1, none⟩) (by simp <;> omega)).trans (by go_simp); replace k2 : w1.cell? ⟨w.heap.size+1, 0, none⟩ = some (.int .i64 x) := (hb1.cell (p := ⟨w.heap.size+1, 0, none⟩) (by simp <;> omega)).trans (by go_simp); replace k3 : w1.cell? ⟨w.heap.size+1, 1, none⟩ = some (.int .i64 y) := (hb1.cell (p := ⟨w.heap.size+1, 1, none⟩) (by simp <;> omega)).trans (by go_simp)
  have z1 := hb1.size; (try simp at z1)
  have zz : w.heap.size ≤ w1.heap.size := by omega
  replace y0 : w.heap.size < w1.heap.size := by omega
  replace y1 : w.heap.size+1 < w1.heap.size := by omega
  replace gg : Below w.heap.size w w1 := (by repeat' (first | (with_reducible exact Below.refl _ _) | (with_reducible assumption) | (with_reducible refine Below.drew ?_) | (with_reducible refine below_drewN ?_ _) | (with_reducible refine bel_alloc ?_ _) | (with_reducible refine Below.setCell ?_ ?_ _) | (with_reducible refine bel_call ?_ (by assumption)) | (simp <;> omega)))
  clear hb1
  go_wp2_with fail
  refine (new_ok off _ h).mono ?_
  rintro e w2 ⟨rfl, rfl⟩
  go_wp2_with fail
  refine (new_ok off _ h).mono ?_
  rintro e w2 ⟨rfl, rfl⟩
  go_wp2_with (first | (go_at_call 23; refine (rIsWall_any _ _).mono ?_; rintro e w' ⟨rfl, rfl⟩))
  refine (passed_any w1.heap.size off 0 0 a b x _ ⟨by simp <;> omega, by go_simp, by go_simp, by go_simp, by go_simp, by go_simp⟩ h).mono ?_
  rintro e w3 ⟨rfl, hb3⟩
  replace k0 : w3.cell? ⟨w.heap.size, 0, none⟩ = some (.int .i64 a) := (hb3.cell (p := ⟨w.heap.size, 0, none⟩) (by simp <;> omega)).trans (by go_simp); replace k1 : w3.cell? ⟨w.heap.size, 1, none⟩ = some (.int .i64 b) := (hb3.cell (p := ⟨w.heap.size, 1, none⟩) (by simp <;> omega)).trans (by go_simp); replace k2 : w3.cell? ⟨w.heap.size+1, 0, none⟩ = some (.int .i64 x) := (hb3.cell (p := ⟨w.heap.size+1, 0, none⟩) (by simp <;> omega)).trans (by go_simp); replace k3 : w3.cell? ⟨w.heap.size+1, 1, none⟩ = some (.int .i64 y) := (hb3.cell (p := ⟨w.heap.size+1, 1, none⟩) (by simp <;> omega)).trans (by go_simp)
  replace q0 : w3.cell? ⟨w1.heap.size+1, 0, none⟩ = some (.int .i64 off) := (hb3.cell (p := ⟨w1.heap.size+1, 0, none⟩) (by simp <;> omega)).trans (by go_simp)
  replace r0 : w3.cell? ⟨w1.heap.size+1, 1, none⟩ = some (.int .i64 0) := (hb3.cell (p := ⟨w1.heap.size+1, 1, none⟩) (by simp <;> omega)).trans (by go_simp); replace r0f : w3.frozen? ⟨w1.heap.size+1, 1, none⟩ = false := (hb3.frozen (p := ⟨w1.heap.size+1, 1, none⟩) (by simp <;> omega)).trans (by go_simp); replace r1 : w3.cell? ⟨w1.heap.size+1, 2, none⟩ = some (.int .i64 0) := (hb3.cell (p := ⟨w1.heap.size+1, 2, none⟩) (by simp <;> omega)).trans (by go_simp); replace r1f : w3.frozen? ⟨w1.heap.size+1, 2, none⟩ = false := (hb3.frozen (p := ⟨w1.heap.size+1, 2, none⟩) (by simp <;> omega)).trans (by go_simp)
  have z3 := hb3.size; (try simp at z3)
  replace gg : Below w.heap.size w w3 := (by repeat' (first | (with_reducible exact Below.refl _ _) | (with_reducible assumption) | (with_reducible refine Below.drew ?_) | (with_reducible refine below_drewN ?_ _) | (with_reducible refine bel_alloc ?_ _) | (with_reducible refine Below.setCell ?_ ?_ _) | (with_reducible refine bel_call ?_ (by assumption)) | (simp <;> omega)))
  replace y0 : w.heap.size < w3.heap.size := by omega
  replace y1 : w.heap.size + 1 < w3.heap.size := by omega
  have y2 : w1.heap.size + 1 < w3.heap.size := by omega
  have y3 : w.heap.size + 1 < w1.heap.size + 1 := by omega
  clear hb3
  go_wp2_with fail
  go_ret
  exact ⟨rfl, gg⟩
set_option maxHeartbeats 2000000 in
theorem passes3 (off a b x y : Int) (w : World) (h : isWall off = true) (hp : passed off a b x = true) (hy : isWall y = true) (hxy : 0 ≤ x ∧ x ≤ 9007199254740991) (hyy : 0 ≤ y ∧ y ≤ 9007199254740991) (hlt : y < x) (hof : off < x - y) : Calls Try.prog 5 #[.int .i64 off, .agg #[.int .i64 a, .int .i64 b], .agg #[.int .i64 x, .int .i64 y]] w (Ret (.bool true) w) := by
  have hp1 : (!passed off a b x) = false := by simp [hp]
  have hy1 : (!isWall y) = false := by simp [hy]
  clear hp hy
  have h1 : (!isWall off) = false := by simp [h]
  go_enter Try.func5, Try.ntmps5
  go_wp2_with fail
  refine (awake_any _).mono ?_
  rintro e w1 ⟨rfl, hb1⟩
  replace k0 : w1.cell? ⟨w.heap.size, 0, none⟩ = some (.int .i64 a) := (hb1.cell (p := ⟨w.heap.size, 0, none⟩) (by simp <;> omega)).trans (by go_simp); replace k1 : w1.cell? ⟨w.heap.size, 1, none⟩ = some (.int .i64 b) := (hb1.cell (p := ⟨w.heap.size, 1, none⟩) (by simp <;> omega)).trans (by go_simp); replace k2 : w1.cell? ⟨w.heap.size+1, 0, none⟩ = some (.int .i64 x) := (hb1.cell (p := ⟨w.heap.size+1, 0, none⟩) (by simp <;> omega)).trans (by go_simp); replace k3 : w1.cell? ⟨w.heap.size+1, 1, none⟩ = some (.int .i64 y) := (hb1.cell (p := ⟨w.heap.size+1, 1, none⟩) (by simp <;> omega)).trans (by go_simp)
  have z1 := hb1.size; (try simp at z1)
  have zz : w.heap.size ≤ w1.heap.size := by omega
  replace y0 : w.heap.size < w1.heap.size := by omega
  replace y1 : w.heap.size+1 < w1.heap.size := by omega
  replace gg : Below w.heap.size w w1 := (by repeat' (first | (with_reducible exact Below.refl _ _) | (with_reducible assumption) | (with_reducible refine Below.drew ?_) | (with_reducible refine below_drewN ?_ _) | (with_reducible refine bel_alloc ?_ _) | (with_reducible refine Below.setCell ?_ ?_ _) | (with_reducible refine bel_call ?_ (by assumption)) | (simp <;> omega)))
  clear hb1
  go_wp2_with fail
  refine (new_ok off _ h).mono ?_
  rintro e w2 ⟨rfl, rfl⟩
  go_wp2_with fail
  refine (new_ok off _ h).mono ?_
  rintro e w2 ⟨rfl, rfl⟩
  go_wp2_with (first | (go_at_call 23; refine (rIsWall_any _ _).mono ?_; rintro e w' ⟨rfl, rfl⟩))
  refine (passed_any w1.heap.size off 0 0 a b x _ ⟨by simp <;> omega, by go_simp, by go_simp, by go_simp, by go_simp, by go_simp⟩ h).mono ?_
  rintro e w3 ⟨rfl, hb3⟩
  replace k0 : w3.cell? ⟨w.heap.size, 0, none⟩ = some (.int .i64 a) := (hb3.cell (p := ⟨w.heap.size, 0, none⟩) (by simp <;> omega)).trans (by go_simp); replace k1 : w3.cell? ⟨w.heap.size, 1, none⟩ = some (.int .i64 b) := (hb3.cell (p := ⟨w.heap.size, 1, none⟩) (by simp <;> omega)).trans (by go_simp); replace k2 : w3.cell? ⟨w.heap.size+1, 0, none⟩ = some (.int .i64 x) := (hb3.cell (p := ⟨w.heap.size+1, 0, none⟩) (by simp <;> omega)).trans (by go_simp); replace k3 : w3.cell? ⟨w.heap.size+1, 1, none⟩ = some (.int .i64 y) := (hb3.cell (p := ⟨w.heap.size+1, 1, none⟩) (by simp <;> omega)).trans (by go_simp)
  replace q0 : w3.cell? ⟨w1.heap.size+1, 0, none⟩ = some (.int .i64 off) := (hb3.cell (p := ⟨w1.heap.size+1, 0, none⟩) (by simp <;> omega)).trans (by go_simp)
  replace r0 : w3.cell? ⟨w1.heap.size+1, 1, none⟩ = some (.int .i64 0) := (hb3.cell (p := ⟨w1.heap.size+1, 1, none⟩) (by simp <;> omega)).trans (by go_simp); replace r0f : w3.frozen? ⟨w1.heap.size+1, 1, none⟩ = false := (hb3.frozen (p := ⟨w1.heap.size+1, 1, none⟩) (by simp <;> omega)).trans (by go_simp); replace r1 : w3.cell? ⟨w1.heap.size+1, 2, none⟩ = some (.int .i64 0) := (hb3.cell (p := ⟨w1.heap.size+1, 2, none⟩) (by simp <;> omega)).trans (by go_simp); replace r1f : w3.frozen? ⟨w1.heap.size+1, 2, none⟩ = false := (hb3.frozen (p := ⟨w1.heap.size+1, 2, none⟩) (by simp <;> omega)).trans (by go_simp)
  have z3 := hb3.size; (try simp at z3)
  replace gg : Below w.heap.size w w3 := (by repeat' (first | (with_reducible exact Below.refl _ _) | (with_reducible assumption) | (with_reducible refine Below.drew ?_) | (with_reducible refine below_drewN ?_ _) | (with_reducible refine bel_alloc ?_ _) | (with_reducible refine Below.setCell ?_ ?_ _) | (with_reducible refine bel_call ?_ (by assumption)) | (simp <;> omega)))
  replace y0 : w.heap.size < w3.heap.size := by omega
  replace y1 : w.heap.size + 1 < w3.heap.size := by omega
  have y2 : w1.heap.size + 1 < w3.heap.size := by omega
  have y3 : w.heap.size + 1 < w1.heap.size + 1 := by omega
  clear hb3
  go_wp2_with fail
  go_ret
  exact ⟨rfl, gg⟩
set_option maxHeartbeats 4000000 in
theorem passes4 (off a b x y : Int) (w : World) (h : isWall off = true) (hp : passed off a b x = true) (hy : isWall y = true) (hxy : 0 ≤ x ∧ x ≤ 9007199254740991) (hyy : 0 ≤ y ∧ y ≤ 9007199254740991) (hle : x ≤ y) (ha : 0 ≤ a) (hay : a < y) : Calls Try.prog 5 #[.int .i64 off, .agg #[.int .i64 a, .int .i64 b], .agg #[.int .i64 x, .int .i64 y]] w (Ret (.bool true) w) := by
  have hp1 : (!passed off a b x) = false := by simp [hp]
  have hy1 : (!isWall y) = false := by simp [hy]
  have hR := Lib.hid (show nowR 0 0 y = (y, 0, 0) by rw [nowR_zero hy, if_pos (by omega)])
  have hcmp := Lib.hid (show cmpS a b y 0 = -1 from rcmp1 hay)
  clear hp hy
  have h1 : (!isWall off) = false := by simp [h]
  go_enter Try.func5, Try.ntmps5
  go_wp2_with fail
  refine (awake_any _).mono ?_
  rintro e w1 ⟨rfl, hb1⟩
  replace k0 : w1.cell? ⟨w.heap.size, 0, none⟩ = some (.int .i64 a) := (hb1.cell (p := ⟨w.heap.size, 0, none⟩) (by simp <;> omega)).trans (by go_simp); replace k1 : w1.cell? ⟨w.heap.size, 1, none⟩ = some (.int .i64 b) := (hb1.cell (p := ⟨w.heap.size, 1, none⟩) (by simp <;> omega)).trans (by go_simp); replace k2 : w1.cell? ⟨w.heap.size+1, 0, none⟩ = some (.int .i64 x) := (hb1.cell (p := ⟨w.heap.size+1, 0, none⟩) (by simp <;> omega)).trans (by go_simp); replace k3 : w1.cell? ⟨w.heap.size+1, 1, none⟩ = some (.int .i64 y) := (hb1.cell (p := ⟨w.heap.size+1, 1, none⟩) (by simp <;> omega)).trans (by go_simp)
  have z1 := hb1.size; (try simp at z1)
  have zz : w.heap.size ≤ w1.heap.size := by omega
  replace y0 : w.heap.size < w1.heap.size := by omega
  replace y1 : w.heap.size+1 < w1.heap.size := by omega
  replace gg : Below w.heap.size w w1 := (by repeat' (first | (with_reducible exact Below.refl _ _) | (with_reducible assumption) | (with_reducible refine Below.drew ?_) | (with_reducible refine below_drewN ?_ _) | (with_reducible refine bel_alloc ?_ _) | (with_reducible refine Below.setCell ?_ ?_ _) | (with_reducible refine bel_call ?_ (by assumption)) | (simp <;> omega)))
  clear hb1
  go_wp2_with fail
  refine (new_ok off _ h).mono ?_
  rintro e w2 ⟨rfl, rfl⟩
  go_wp2_with fail
  refine (new_ok off _ h).mono ?_
  rintro e w2 ⟨rfl, rfl⟩
  go_wp2_with (first | (go_at_call 23; refine (rIsWall_any _ _).mono ?_; rintro e w' ⟨rfl, rfl⟩))
  refine (passed_any w1.heap.size off 0 0 a b x _ ⟨by simp <;> omega, by go_simp, by go_simp, by go_simp, by go_simp, by go_simp⟩ h).mono ?_
  rintro e w3 ⟨rfl, hb3⟩
  replace k0 : w3.cell? ⟨w.heap.size, 0, none⟩ = some (.int .i64 a) := (hb3.cell (p := ⟨w.heap.size, 0, none⟩) (by simp <;> omega)).trans (by go_simp); replace k1 : w3.cell? ⟨w.heap.size, 1, none⟩ = some (.int .i64 b) := (hb3.cell (p := ⟨w.heap.size, 1, none⟩) (by simp <;> omega)).trans (by go_simp); replace k2 : w3.cell? ⟨w.heap.size+1, 0, none⟩ = some (.int .i64 x) := (hb3.cell (p := ⟨w.heap.size+1, 0, none⟩) (by simp <;> omega)).trans (by go_simp); replace k3 : w3.cell? ⟨w.heap.size+1, 1, none⟩ = some (.int .i64 y) := (hb3.cell (p := ⟨w.heap.size+1, 1, none⟩) (by simp <;> omega)).trans (by go_simp)
  replace q0 : w3.cell? ⟨w1.heap.size+1, 0, none⟩ = some (.int .i64 off) := (hb3.cell (p := ⟨w1.heap.size+1, 0, none⟩) (by simp <;> omega)).trans (by go_simp)
  replace r0 : w3.cell? ⟨w1.heap.size+1, 1, none⟩ = some (.int .i64 0) := (hb3.cell (p := ⟨w1.heap.size+1, 1, none⟩) (by simp <;> omega)).trans (by go_simp); replace r0f : w3.frozen? ⟨w1.heap.size+1, 1, none⟩ = false := (hb3.frozen (p := ⟨w1.heap.size+1, 1, none⟩) (by simp <;> omega)).trans (by go_simp); replace r1 : w3.cell? ⟨w1.heap.size+1, 2, none⟩ = some (.int .i64 0) := (hb3.cell (p := ⟨w1.heap.size+1, 2, none⟩) (by simp <;> omega)).trans (by go_simp); replace r1f : w3.frozen? ⟨w1.heap.size+1, 2, none⟩ = false := (hb3.frozen (p := ⟨w1.heap.size+1, 2, none⟩) (by simp <;> omega)).trans (by go_simp)
  have z3 := hb3.size; (try simp at z3)
  replace gg : Below w.heap.size w w3 := (by repeat' (first | (with_reducible exact Below.refl _ _) | (with_reducible assumption) | (with_reducible refine Below.drew ?_) | (with_reducible refine below_drewN ?_ _) | (with_reducible refine bel_alloc ?_ _) | (with_reducible refine Below.setCell ?_ ?_ _) | (with_reducible refine bel_call ?_ (by assumption)) | (simp <;> omega)))
  replace y0 : w.heap.size < w3.heap.size := by omega
  replace y1 : w.heap.size + 1 < w3.heap.size := by omega
  have y2 : w1.heap.size + 1 < w3.heap.size := by omega
  have y3 : w.heap.size + 1 < w1.heap.size + 1 := by omega
  clear hb3
  go_wp2_with fail
  refine (now_any (w1.heap.size + 1) off 0 0 y w3 ⟨by omega, q0, r0, r1, r0f, r1f⟩).mono ?_
  unfold NowPost
  rw [hR.out]
  rintro e w4 ⟨rfl, _, hg4⟩
  have hsz := hg4.size
  have gg4 : Below w.heap.size w w4 := gg.trans ⟨hg4.os, hg4.tape, hg4.output, hg4.size, fun i hi => hg4.block i (by omega) (by simp; omega)⟩
  have cc : ∀ b o, b < w.heap.size + 2 → w4.cell? ⟨b, o, none⟩ = w3.cell? ⟨b, o, none⟩ := fun b o hb => World.cell?_of_block (hg4.block b (by omega) (by simp; omega))
  have m0 := (cc w.heap.size 0 (by omega)).trans k0
  have m1 := (cc w.heap.size 1 (by omega)).trans k1
  have y9 : w.heap.size < w4.heap.size := by omega
  clear cc hg4 k0 k1 k2 k3 q0 r0 r1 r0f r1f gg
  unfold vse
  go_wp2_with fail
  refine (rCompare_any a b y 0 _).mono ?_
  rw [hcmp.out]
  rintro e w5 ⟨rfl, hb5⟩
  go_wp2_with fail
  go_ret
  exact ⟨rfl, (by repeat' (first | (with_reducible exact Below.refl _ _) | (with_reducible assumption) | (with_reducible refine Below.drew ?_) | (with_reducible refine below_drewN ?_ _) | (with_reducible refine bel_alloc ?_ _) | (with_reducible refine Below.setCell ?_ ?_ _) | (with_reducible refine bel_call ?_ (by assumption)) | (simp <;> omega)))⟩
set_option maxHeartbeats 4000000 in
theorem passes5 (off a b x y : Int) (w : World) (h : isWall off = true) (hp : passed off a b x = true) (hy : isWall y = true) (hxy : 0 ≤ x ∧ x ≤ 9007199254740991) (hyy : 0 ≤ y ∧ y ≤ 9007199254740991) (hlt : y < x) (hof : x - y ≤ off) (ha : 0 ≤ a) (hay : a < y) : Calls Try.prog 5 #[.int .i64 off, .agg #[.int .i64 a, .int .i64 b], .agg #[.int .i64 x, .int .i64 y]] w (Ret (.bool true) w) := by
  have hp1 : (!passed off a b x) = false := by simp [hp]
  have hy1 : (!isWall y) = false := by simp [hy]
  have hR := Lib.hid (show nowR 0 0 y = (y, 0, 0) by rw [nowR_zero hy, if_pos (by omega)])
  have hcmp := Lib.hid (show cmpS a b y 0 = -1 from rcmp1 hay)
  clear hp hy
  have h1 : (!isWall off) = false := by simp [h]
  go_enter Try.func5, Try.ntmps5
  go_wp2_with fail
  refine (awake_any _).mono ?_
  rintro e w1 ⟨rfl, hb1⟩
  replace k0 : w1.cell? ⟨w.heap.size, 0, none⟩ = some (.int .i64 a) := (hb1.cell (p := ⟨w.heap.size, 0, none⟩) (by simp <;> omega)).trans (by go_simp); replace k1 : w1.cell? ⟨w.heap.size, 1, none⟩ = some (.int .i64 b) := (hb1.cell (p := ⟨w.heap.size, 1, none⟩) (by simp <;> omega)).trans (by go_simp); replace k2 : w1.cell? ⟨w.heap.size+1, 0, none⟩ = some (.int .i64 x) := (hb1.cell (p := ⟨w.heap.size+1, 0, none⟩) (by simp <;> omega)).trans (by go_simp); replace k3 : w1.cell? ⟨w.heap.size+1, 1, none⟩ = some (.int .i64 y) := (hb1.cell (p := ⟨w.heap.size+1, 1, none⟩) (by simp <;> omega)).trans (by go_simp)
  have z1 := hb1.size; (try simp at z1)
  have zz : w.heap.size ≤ w1.heap.size := by omega
  replace y0 : w.heap.size < w1.heap.size := by omega
  replace y1 : w.heap.size+1 < w1.heap.size := by omega
  replace gg : Below w.heap.size w w1 := (by repeat' (first | (with_reducible exact Below.refl _ _) | (with_reducible assumption) | (with_reducible refine Below.drew ?_) | (with_reducible refine below_drewN ?_ _) | (with_reducible refine bel_alloc ?_ _) | (with_reducible refine Below.setCell ?_ ?_ _) | (with_reducible refine bel_call ?_ (by assumption)) | (simp <;> omega)))
  clear hb1
  go_wp2_with fail
  refine (new_ok off _ h).mono ?_
  rintro e w2 ⟨rfl, rfl⟩
  go_wp2_with fail
  refine (new_ok off _ h).mono ?_
  rintro e w2 ⟨rfl, rfl⟩
  go_wp2_with (first | (go_at_call 23; refine (rIsWall_any _ _).mono ?_; rintro e w' ⟨rfl, rfl⟩))
  refine (passed_any w1.heap.size off 0 0 a b x _ ⟨by simp <;> omega, by go_simp, by go_simp, by go_simp, by go_simp, by go_simp⟩ h).mono ?_
  rintro e w3 ⟨rfl, hb3⟩
  replace k0 : w3.cell? ⟨w.heap.size, 0, none⟩ = some (.int .i64 a) := (hb3.cell (p := ⟨w.heap.size, 0, none⟩) (by simp <;> omega)).trans (by go_simp); replace k1 : w3.cell? ⟨w.heap.size, 1, none⟩ = some (.int .i64 b) := (hb3.cell (p := ⟨w.heap.size, 1, none⟩) (by simp <;> omega)).trans (by go_simp); replace k2 : w3.cell? ⟨w.heap.size+1, 0, none⟩ = some (.int .i64 x) := (hb3.cell (p := ⟨w.heap.size+1, 0, none⟩) (by simp <;> omega)).trans (by go_simp); replace k3 : w3.cell? ⟨w.heap.size+1, 1, none⟩ = some (.int .i64 y) := (hb3.cell (p := ⟨w.heap.size+1, 1, none⟩) (by simp <;> omega)).trans (by go_simp)
  replace q0 : w3.cell? ⟨w1.heap.size+1, 0, none⟩ = some (.int .i64 off) := (hb3.cell (p := ⟨w1.heap.size+1, 0, none⟩) (by simp <;> omega)).trans (by go_simp)
  replace r0 : w3.cell? ⟨w1.heap.size+1, 1, none⟩ = some (.int .i64 0) := (hb3.cell (p := ⟨w1.heap.size+1, 1, none⟩) (by simp <;> omega)).trans (by go_simp); replace r0f : w3.frozen? ⟨w1.heap.size+1, 1, none⟩ = false := (hb3.frozen (p := ⟨w1.heap.size+1, 1, none⟩) (by simp <;> omega)).trans (by go_simp); replace r1 : w3.cell? ⟨w1.heap.size+1, 2, none⟩ = some (.int .i64 0) := (hb3.cell (p := ⟨w1.heap.size+1, 2, none⟩) (by simp <;> omega)).trans (by go_simp); replace r1f : w3.frozen? ⟨w1.heap.size+1, 2, none⟩ = false := (hb3.frozen (p := ⟨w1.heap.size+1, 2, none⟩) (by simp <;> omega)).trans (by go_simp)
  have z3 := hb3.size; (try simp at z3)
  replace gg : Below w.heap.size w w3 := (by repeat' (first | (with_reducible exact Below.refl _ _) | (with_reducible assumption) | (with_reducible refine Below.drew ?_) | (with_reducible refine below_drewN ?_ _) | (with_reducible refine bel_alloc ?_ _) | (with_reducible refine Below.setCell ?_ ?_ _) | (with_reducible refine bel_call ?_ (by assumption)) | (simp <;> omega)))
  replace y0 : w.heap.size < w3.heap.size := by omega
  replace y1 : w.heap.size + 1 < w3.heap.size := by omega
  have y2 : w1.heap.size + 1 < w3.heap.size := by omega
  have y3 : w.heap.size + 1 < w1.heap.size + 1 := by omega
  clear hb3
  go_wp2_with fail
  refine (now_any (w1.heap.size + 1) off 0 0 y w3 ⟨by omega, q0, r0, r1, r0f, r1f⟩).mono ?_
  unfold NowPost
  rw [hR.out]
  rintro e w4 ⟨rfl, _, hg4⟩
  have hsz := hg4.size
  have gg4 : Below w.heap.size w w4 := gg.trans ⟨hg4.os, hg4.tape, hg4.output, hg4.size, fun i hi => hg4.block i (by omega) (by simp; omega)⟩
  have cc : ∀ b o, b < w.heap.size + 2 → w4.cell? ⟨b, o, none⟩ = w3.cell? ⟨b, o, none⟩ := fun b o hb => World.cell?_of_block (hg4.block b (by omega) (by simp; omega))
  have m0 := (cc w.heap.size 0 (by omega)).trans k0
  have m1 := (cc w.heap.size 1 (by omega)).trans k1
  have y9 : w.heap.size < w4.heap.size := by omega
  clear cc hg4 k0 k1 k2 k3 q0 r0 r1 r0f r1f gg
  unfold vse
  go_wp2_with fail
  refine (rCompare_any a b y 0 _).mono ?_
  rw [hcmp.out]
  rintro e w5 ⟨rfl, hb5⟩
  go_wp2_with fail
  go_ret
  exact ⟨rfl, (by repeat' (first | (with_reducible exact Below.refl _ _) | (with_reducible assumption) | (with_reducible refine Below.drew ?_) | (with_reducible refine below_drewN ?_ _) | (with_reducible refine bel_alloc ?_ _) | (with_reducible refine Below.setCell ?_ ?_ _) | (with_reducible refine bel_call ?_ (by assumption)) | (simp <;> omega)))⟩
theorem passes_walk (off a b x y : Int) (w : World) : Calls Try.prog 5 #[.int .i64 off, .agg #[.int .i64 a, .int .i64 b], .agg #[.int .i64 x, .int .i64 y]] w (Ret (.bool true) w) := by
  by_cases h : isWall off = true
  · by_cases hp : passed off a b x = true
    · by_cases hy : isWall y = true
      · have hpp := hp
        simp only [passed, Bool.and_eq_true, decide_eq_true_eq] at hpp
        obtain ⟨⟨hx, hr⟩, hlt⟩ := hpp
        have hxy : 0 ≤ x ∧ x ≤ 9007199254740991 := by simpa [isWall] using hx
        have hyy : 0 ≤ y ∧ y ≤ 9007199254740991 := by simpa [isWall] using hy
        have hra := (right_iff.1 hr).1
        have hoff : 0 ≤ off ∧ off ≤ 9007199254740991 := by simpa [isWall] using h
        by_cases hc : y < x
        · by_cases hd : off < x - y
          · exact passes3 off a b x y w h hp hy hxy hyy hc hd
          · exact passes5 off a b x y w h hp hy hxy hyy hc (by omega) hra.1 (by omega)
        · exact passes4 off a b x y w h hp hy hxy hyy (by omega) hra.1 (by omega)
      · exact passes2 off a b x y w h hp (by simpa using hy)
    · exact passes1 off a b x y w h (by simpa using hp)
  · exact passes_nowall off a b x y w (by simpa using h)
end Hlc
end Go.Proofs.Ytogooghigeemaaa
