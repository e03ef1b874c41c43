/- The walks of the laws of hlc. -/
import Derived.Test.YtogooghigeemaaaHlc
namespace Go.Proofs.Ytogooghigeemaaa
open Go.RowKit
namespace Hlc

set_option maxHeartbeats 400000 in
theorem awake_any (w : World) : Calls Try.prog 9 #[] w (Ret (.bool true) w) := by
  have e : next 3 65535 = (4, 0, 0) := by decide
  go_enter Try.func9, Try.ntmps9
  go_wp2_with fail
  refine (next_any 3 65535 _).mono ?_
  rw [e]; clear e
  rintro e w1 ⟨rfl, hb⟩
  unfold vse
  go_wp2_with fail
  go_ret
  exact ⟨rfl, (by repeat' (first | (with_reducible exact Below.refl _ _) | (with_reducible assumption) | (with_reducible refine Below.drew ?_) | (with_reducible refine below_drewN ?_ _) | (with_reducible refine bel_alloc ?_ _) | (with_reducible refine Below.setCell ?_ ?_ _) | (with_reducible refine bel_call ?_ (by assumption)) | (simp <;> omega)))⟩

set_option maxHeartbeats 1000000 in
theorem stamps_walk (a b c d : Int) (w : World) :
    Calls Try.prog 4 #[.agg #[.int .i64 a, .int .i64 b], .agg #[.int .i64 c, .int .i64 d]] w (Ret (.bool true) w) := by
  go_enter Try.func4, Try.ntmps4
  go_wp2_with fail
  refine (awake_any _).mono ?_
  rintro e w1 ⟨rfl, hb1⟩
  replace k0 : w1.cell? ⟨w.heap.size, 0, none⟩ = some (.int .i64 a) := (hb1.cell (p := ⟨w.heap.size, 0, none⟩) (by simp <;> omega)).trans (by go_simp); replace k1 : w1.cell? ⟨w.heap.size, 1, none⟩ = some (.int .i64 b) := (hb1.cell (p := ⟨w.heap.size, 1, none⟩) (by simp <;> omega)).trans (by go_simp); replace k2 : w1.cell? ⟨w.heap.size+1, 0, none⟩ = some (.int .i64 c) := (hb1.cell (p := ⟨w.heap.size+1, 0, none⟩) (by simp <;> omega)).trans (by go_simp); replace k3 : w1.cell? ⟨w.heap.size+1, 1, none⟩ = some (.int .i64 d) := (hb1.cell (p := ⟨w.heap.size+1, 1, none⟩) (by simp <;> omega)).trans (by go_simp)
  have z1 := hb1.size; (try simp at z1)
  have zz : w.heap.size ≤ w1.heap.size := by omega
  replace y0 : w.heap.size < w1.heap.size := by omega
  replace y1 : w.heap.size+1 < w1.heap.size := by omega
  replace gg : Below w.heap.size w w1 := (by repeat' (first | (with_reducible exact Below.refl _ _) | (with_reducible assumption) | (with_reducible refine Below.drew ?_) | (with_reducible refine below_drewN ?_ _) | (with_reducible refine bel_alloc ?_ _) | (with_reducible refine Below.setCell ?_ ?_ _) | (with_reducible refine bel_call ?_ (by assumption)) | (simp <;> omega)))
  clear hb1
  go_wp2_with fail
  refine (right_any a b _).mono ?_
  rintro e w2 ⟨rfl, hb2⟩
  replace k0 : w2.cell? ⟨w.heap.size, 0, none⟩ = some (.int .i64 a) := (hb2.cell (p := ⟨w.heap.size, 0, none⟩) (by simp <;> omega)).trans (by go_simp); replace k1 : w2.cell? ⟨w.heap.size, 1, none⟩ = some (.int .i64 b) := (hb2.cell (p := ⟨w.heap.size, 1, none⟩) (by simp <;> omega)).trans (by go_simp); replace k2 : w2.cell? ⟨w.heap.size+1, 0, none⟩ = some (.int .i64 c) := (hb2.cell (p := ⟨w.heap.size+1, 0, none⟩) (by simp <;> omega)).trans (by go_simp); replace k3 : w2.cell? ⟨w.heap.size+1, 1, none⟩ = some (.int .i64 d) := (hb2.cell (p := ⟨w.heap.size+1, 1, none⟩) (by simp <;> omega)).trans (by go_simp)
  have z2 := hb2.size; (try simp at z2)
  replace zz : w.heap.size ≤ w2.heap.size := by omega
  replace y0 : w.heap.size < w2.heap.size := by omega
  replace y1 : w.heap.size+1 < w2.heap.size := by omega
  replace gg : Below w.heap.size w w2 := (by repeat' (first | (with_reducible exact Below.refl _ _) | (with_reducible assumption) | (with_reducible refine Below.drew ?_) | (with_reducible refine below_drewN ?_ _) | (with_reducible refine bel_alloc ?_ _) | (with_reducible refine Below.setCell ?_ ?_ _) | (with_reducible refine bel_call ?_ (by assumption)) | (simp <;> omega)))
  clear hb2
  go_wp2_with fail
  refine (compare_any a b c d _).mono ?_
  rintro e w3 ⟨rfl, hb3⟩
  replace k0 : w3.cell? ⟨w.heap.size, 0, none⟩ = some (.int .i64 a) := (hb3.cell (p := ⟨w.heap.size, 0, none⟩) (by simp <;> omega)).trans (by go_simp); replace k1 : w3.cell? ⟨w.heap.size, 1, none⟩ = some (.int .i64 b) := (hb3.cell (p := ⟨w.heap.size, 1, none⟩) (by simp <;> omega)).trans (by go_simp); replace k2 : w3.cell? ⟨w.heap.size+1, 0, none⟩ = some (.int .i64 c) := (hb3.cell (p := ⟨w.heap.size+1, 0, none⟩) (by simp <;> omega)).trans (by go_simp); replace k3 : w3.cell? ⟨w.heap.size+1, 1, none⟩ = some (.int .i64 d) := (hb3.cell (p := ⟨w.heap.size+1, 1, none⟩) (by simp <;> omega)).trans (by go_simp)
  have z3 := hb3.size; (try simp at z3)
  replace zz : w.heap.size ≤ w3.heap.size := by omega
  replace y0 : w.heap.size < w3.heap.size := by omega
  replace y1 : w.heap.size+1 < w3.heap.size := by omega
  replace gg : Below w.heap.size w w3 := (by repeat' (first | (with_reducible exact Below.refl _ _) | (with_reducible assumption) | (with_reducible refine Below.drew ?_) | (with_reducible refine below_drewN ?_ _) | (with_reducible refine bel_alloc ?_ _) | (with_reducible refine Below.setCell ?_ ?_ _) | (with_reducible refine bel_call ?_ (by assumption)) | (simp <;> omega)))
  clear hb3
  go_wp2_with fail
  refine (next_any a b _).mono ?_
  rintro e w4 ⟨rfl, hb4⟩
  replace k0 : w4.cell? ⟨w.heap.size, 0, none⟩ = some (.int .i64 a) := (hb4.cell (p := ⟨w.heap.size, 0, none⟩) (by simp <;> omega)).trans (by go_simp); replace k1 : w4.cell? ⟨w.heap.size, 1, none⟩ = some (.int .i64 b) := (hb4.cell (p := ⟨w.heap.size, 1, none⟩) (by simp <;> omega)).trans (by go_simp); replace k2 : w4.cell? ⟨w.heap.size+1, 0, none⟩ = some (.int .i64 c) := (hb4.cell (p := ⟨w.heap.size+1, 0, none⟩) (by simp <;> omega)).trans (by go_simp); replace k3 : w4.cell? ⟨w.heap.size+1, 1, none⟩ = some (.int .i64 d) := (hb4.cell (p := ⟨w.heap.size+1, 1, none⟩) (by simp <;> omega)).trans (by go_simp)
  have z4 := hb4.size; (try simp at z4)
  replace zz : w.heap.size ≤ w4.heap.size := by omega
  replace y0 : w.heap.size < w4.heap.size := by omega
  replace y1 : w.heap.size+1 < w4.heap.size := by omega
  replace gg : Below w.heap.size w w4 := (by repeat' (first | (with_reducible exact Below.refl _ _) | (with_reducible assumption) | (with_reducible refine Below.drew ?_) | (with_reducible refine below_drewN ?_ _) | (with_reducible refine bel_alloc ?_ _) | (with_reducible refine Below.setCell ?_ ?_ _) | (with_reducible refine bel_call ?_ (by assumption)) | (simp <;> omega)))
  clear hb4
  unfold vse
  go_wp2_with fail
  refine (prev_any a b _).mono ?_
  rintro e w5 ⟨rfl, hb5⟩
  replace k0 : w5.cell? ⟨w.heap.size, 0, none⟩ = some (.int .i64 a) := (hb5.cell (p := ⟨w.heap.size, 0, none⟩) (by simp <;> omega)).trans (by go_simp); replace k1 : w5.cell? ⟨w.heap.size, 1, none⟩ = some (.int .i64 b) := (hb5.cell (p := ⟨w.heap.size, 1, none⟩) (by simp <;> omega)).trans (by go_simp); replace k2 : w5.cell? ⟨w.heap.size+1, 0, none⟩ = some (.int .i64 c) := (hb5.cell (p := ⟨w.heap.size+1, 0, none⟩) (by simp <;> omega)).trans (by go_simp); replace k3 : w5.cell? ⟨w.heap.size+1, 1, none⟩ = some (.int .i64 d) := (hb5.cell (p := ⟨w.heap.size+1, 1, none⟩) (by simp <;> omega)).trans (by go_simp); replace k4 : w5.cell? ⟨w4.heap.size, 0, none⟩ = some (.int .i64 (next a b).1) := (hb5.cell (p := ⟨w4.heap.size, 0, none⟩) (by simp <;> omega)).trans (by go_simp); replace k5 : w5.cell? ⟨w4.heap.size, 1, none⟩ = some (.int .i64 (next a b).2.1) := (hb5.cell (p := ⟨w4.heap.size, 1, none⟩) (by simp <;> omega)).trans (by go_simp)
  have z5 := hb5.size; (try simp at z5)
  replace zz : w.heap.size ≤ w5.heap.size := by omega
  replace y0 : w.heap.size < w5.heap.size := by omega
  replace y1 : w.heap.size+1 < w5.heap.size := by omega
  replace y2 : w4.heap.size < w5.heap.size := by omega
  replace gg : Below w.heap.size w w5 := (by repeat' (first | (with_reducible exact Below.refl _ _) | (with_reducible assumption) | (with_reducible refine Below.drew ?_) | (with_reducible refine below_drewN ?_ _) | (with_reducible refine bel_alloc ?_ _) | (with_reducible refine Below.setCell ?_ ?_ _) | (with_reducible refine bel_call ?_ (by assumption)) | (simp <;> omega)))
  clear hb5
  unfold vse
  go_wp2_with fail
  refine (rRight_any a b _).mono ?_
  rintro e w6 ⟨rfl, hb6⟩
  replace k0 : w6.cell? ⟨w.heap.size, 0, none⟩ = some (.int .i64 a) := (hb6.cell (p := ⟨w.heap.size, 0, none⟩) (by simp <;> omega)).trans (by go_simp); replace k1 : w6.cell? ⟨w.heap.size, 1, none⟩ = some (.int .i64 b) := (hb6.cell (p := ⟨w.heap.size, 1, none⟩) (by simp <;> omega)).trans (by go_simp); replace k2 : w6.cell? ⟨w.heap.size+1, 0, none⟩ = some (.int .i64 c) := (hb6.cell (p := ⟨w.heap.size+1, 0, none⟩) (by simp <;> omega)).trans (by go_simp); replace k3 : w6.cell? ⟨w.heap.size+1, 1, none⟩ = some (.int .i64 d) := (hb6.cell (p := ⟨w.heap.size+1, 1, none⟩) (by simp <;> omega)).trans (by go_simp); replace k4 : w6.cell? ⟨w4.heap.size, 0, none⟩ = some (.int .i64 (next a b).1) := (hb6.cell (p := ⟨w4.heap.size, 0, none⟩) (by simp <;> omega)).trans (by go_simp); replace k5 : w6.cell? ⟨w4.heap.size, 1, none⟩ = some (.int .i64 (next a b).2.1) := (hb6.cell (p := ⟨w4.heap.size, 1, none⟩) (by simp <;> omega)).trans (by go_simp); replace k6 : w6.cell? ⟨w5.heap.size, 0, none⟩ = some (.int .i64 (prev a b).1) := (hb6.cell (p := ⟨w5.heap.size, 0, none⟩) (by simp <;> omega)).trans (by go_simp); replace k7 : w6.cell? ⟨w5.heap.size, 1, none⟩ = some (.int .i64 (prev a b).2.1) := (hb6.cell (p := ⟨w5.heap.size, 1, none⟩) (by simp <;> omega)).trans (by go_simp)
  have z6 := hb6.size; (try simp at z6)
  replace zz : w.heap.size ≤ w6.heap.size := by omega
  replace y0 : w.heap.size < w6.heap.size := by omega
  replace y1 : w.heap.size+1 < w6.heap.size := by omega
  replace y2 : w4.heap.size < w6.heap.size := by omega
  replace y3 : w5.heap.size < w6.heap.size := by omega
  replace gg : Below w.heap.size w w6 := (by repeat' (first | (with_reducible exact Below.refl _ _) | (with_reducible assumption) | (with_reducible refine Below.drew ?_) | (with_reducible refine below_drewN ?_ _) | (with_reducible refine bel_alloc ?_ _) | (with_reducible refine Below.setCell ?_ ?_ _) | (with_reducible refine bel_call ?_ (by assumption)) | (simp <;> omega)))
  clear hb6
  go_wp2_with fail
  refine (rCompare_any a b c d _).mono ?_
  rintro e w7 ⟨rfl, hb7⟩
  replace k0 : w7.cell? ⟨w.heap.size, 0, none⟩ = some (.int .i64 a) := (hb7.cell (p := ⟨w.heap.size, 0, none⟩) (by simp <;> omega)).trans (by go_simp); replace k1 : w7.cell? ⟨w.heap.size, 1, none⟩ = some (.int .i64 b) := (hb7.cell (p := ⟨w.heap.size, 1, none⟩) (by simp <;> omega)).trans (by go_simp); replace k2 : w7.cell? ⟨w.heap.size+1, 0, none⟩ = some (.int .i64 c) := (hb7.cell (p := ⟨w.heap.size+1, 0, none⟩) (by simp <;> omega)).trans (by go_simp); replace k3 : w7.cell? ⟨w.heap.size+1, 1, none⟩ = some (.int .i64 d) := (hb7.cell (p := ⟨w.heap.size+1, 1, none⟩) (by simp <;> omega)).trans (by go_simp); replace k4 : w7.cell? ⟨w4.heap.size, 0, none⟩ = some (.int .i64 (next a b).1) := (hb7.cell (p := ⟨w4.heap.size, 0, none⟩) (by simp <;> omega)).trans (by go_simp); replace k5 : w7.cell? ⟨w4.heap.size, 1, none⟩ = some (.int .i64 (next a b).2.1) := (hb7.cell (p := ⟨w4.heap.size, 1, none⟩) (by simp <;> omega)).trans (by go_simp); replace k6 : w7.cell? ⟨w5.heap.size, 0, none⟩ = some (.int .i64 (prev a b).1) := (hb7.cell (p := ⟨w5.heap.size, 0, none⟩) (by simp <;> omega)).trans (by go_simp); replace k7 : w7.cell? ⟨w5.heap.size, 1, none⟩ = some (.int .i64 (prev a b).2.1) := (hb7.cell (p := ⟨w5.heap.size, 1, none⟩) (by simp <;> omega)).trans (by go_simp)
  have z7 := hb7.size; (try simp at z7)
  replace zz : w.heap.size ≤ w7.heap.size := by omega
  replace y0 : w.heap.size < w7.heap.size := by omega
  replace y1 : w.heap.size+1 < w7.heap.size := by omega
  replace y2 : w4.heap.size < w7.heap.size := by omega
  replace y3 : w5.heap.size < w7.heap.size := by omega
  replace gg : Below w.heap.size w w7 := (by repeat' (first | (with_reducible exact Below.refl _ _) | (with_reducible assumption) | (with_reducible refine Below.drew ?_) | (with_reducible refine below_drewN ?_ _) | (with_reducible refine bel_alloc ?_ _) | (with_reducible refine Below.setCell ?_ ?_ _) | (with_reducible refine bel_call ?_ (by assumption)) | (simp <;> omega)))
  clear hb7
  go_wp2_with fail
  refine (rNext_any a b _).mono ?_
  rintro e w8 ⟨rfl, hb8⟩
  replace k0 : w8.cell? ⟨w.heap.size, 0, none⟩ = some (.int .i64 a) := (hb8.cell (p := ⟨w.heap.size, 0, none⟩) (by simp <;> omega)).trans (by go_simp); replace k1 : w8.cell? ⟨w.heap.size, 1, none⟩ = some (.int .i64 b) := (hb8.cell (p := ⟨w.heap.size, 1, none⟩) (by simp <;> omega)).trans (by go_simp); replace k2 : w8.cell? ⟨w.heap.size+1, 0, none⟩ = some (.int .i64 c) := (hb8.cell (p := ⟨w.heap.size+1, 0, none⟩) (by simp <;> omega)).trans (by go_simp); replace k3 : w8.cell? ⟨w.heap.size+1, 1, none⟩ = some (.int .i64 d) := (hb8.cell (p := ⟨w.heap.size+1, 1, none⟩) (by simp <;> omega)).trans (by go_simp); replace k4 : w8.cell? ⟨w4.heap.size, 0, none⟩ = some (.int .i64 (next a b).1) := (hb8.cell (p := ⟨w4.heap.size, 0, none⟩) (by simp <;> omega)).trans (by go_simp); replace k5 : w8.cell? ⟨w4.heap.size, 1, none⟩ = some (.int .i64 (next a b).2.1) := (hb8.cell (p := ⟨w4.heap.size, 1, none⟩) (by simp <;> omega)).trans (by go_simp); replace k6 : w8.cell? ⟨w5.heap.size, 0, none⟩ = some (.int .i64 (prev a b).1) := (hb8.cell (p := ⟨w5.heap.size, 0, none⟩) (by simp <;> omega)).trans (by go_simp); replace k7 : w8.cell? ⟨w5.heap.size, 1, none⟩ = some (.int .i64 (prev a b).2.1) := (hb8.cell (p := ⟨w5.heap.size, 1, none⟩) (by simp <;> omega)).trans (by go_simp)
  have z8 := hb8.size; (try simp at z8)
  replace zz : w.heap.size ≤ w8.heap.size := by omega
  replace y0 : w.heap.size < w8.heap.size := by omega
  replace y1 : w.heap.size+1 < w8.heap.size := by omega
  replace y2 : w4.heap.size < w8.heap.size := by omega
  replace y3 : w5.heap.size < w8.heap.size := by omega
  replace gg : Below w.heap.size w w8 := (by repeat' (first | (with_reducible exact Below.refl _ _) | (with_reducible assumption) | (with_reducible refine Below.drew ?_) | (with_reducible refine below_drewN ?_ _) | (with_reducible refine bel_alloc ?_ _) | (with_reducible refine Below.setCell ?_ ?_ _) | (with_reducible refine bel_call ?_ (by assumption)) | (simp <;> omega)))
  clear hb8
  unfold vse
  go_wp2_with fail
  refine (rPrev_any a b _).mono ?_
  rintro e w9 ⟨rfl, hb9⟩
  replace k0 : w9.cell? ⟨w.heap.size, 0, none⟩ = some (.int .i64 a) := (hb9.cell (p := ⟨w.heap.size, 0, none⟩) (by simp <;> omega)).trans (by go_simp); replace k1 : w9.cell? ⟨w.heap.size, 1, none⟩ = some (.int .i64 b) := (hb9.cell (p := ⟨w.heap.size, 1, none⟩) (by simp <;> omega)).trans (by go_simp); replace k2 : w9.cell? ⟨w.heap.size+1, 0, none⟩ = some (.int .i64 c) := (hb9.cell (p := ⟨w.heap.size+1, 0, none⟩) (by simp <;> omega)).trans (by go_simp); replace k3 : w9.cell? ⟨w.heap.size+1, 1, none⟩ = some (.int .i64 d) := (hb9.cell (p := ⟨w.heap.size+1, 1, none⟩) (by simp <;> omega)).trans (by go_simp); replace k4 : w9.cell? ⟨w4.heap.size, 0, none⟩ = some (.int .i64 (next a b).1) := (hb9.cell (p := ⟨w4.heap.size, 0, none⟩) (by simp <;> omega)).trans (by go_simp); replace k5 : w9.cell? ⟨w4.heap.size, 1, none⟩ = some (.int .i64 (next a b).2.1) := (hb9.cell (p := ⟨w4.heap.size, 1, none⟩) (by simp <;> omega)).trans (by go_simp); replace k6 : w9.cell? ⟨w5.heap.size, 0, none⟩ = some (.int .i64 (prev a b).1) := (hb9.cell (p := ⟨w5.heap.size, 0, none⟩) (by simp <;> omega)).trans (by go_simp); replace k7 : w9.cell? ⟨w5.heap.size, 1, none⟩ = some (.int .i64 (prev a b).2.1) := (hb9.cell (p := ⟨w5.heap.size, 1, none⟩) (by simp <;> omega)).trans (by go_simp); replace k8 : w9.cell? ⟨w8.heap.size, 0, none⟩ = some (.int .i64 (next a b).1) := (hb9.cell (p := ⟨w8.heap.size, 0, none⟩) (by simp <;> omega)).trans (by go_simp); replace k9 : w9.cell? ⟨w8.heap.size, 1, none⟩ = some (.int .i64 (next a b).2.1) := (hb9.cell (p := ⟨w8.heap.size, 1, none⟩) (by simp <;> omega)).trans (by go_simp)
  have z9 := hb9.size; (try simp at z9)
  replace zz : w.heap.size ≤ w9.heap.size := by omega
  replace y0 : w.heap.size < w9.heap.size := by omega
  replace y1 : w.heap.size+1 < w9.heap.size := by omega
  replace y2 : w4.heap.size < w9.heap.size := by omega
  replace y3 : w5.heap.size < w9.heap.size := by omega
  replace y4 : w8.heap.size < w9.heap.size := by omega
  replace gg : Below w.heap.size w w9 := (by repeat' (first | (with_reducible exact Below.refl _ _) | (with_reducible assumption) | (with_reducible refine Below.drew ?_) | (with_reducible refine below_drewN ?_ _) | (with_reducible refine bel_alloc ?_ _) | (with_reducible refine Below.setCell ?_ ?_ _) | (with_reducible refine bel_call ?_ (by assumption)) | (simp <;> omega)))
  clear hb9
  unfold vse
  go_wp2_with fail
  go_ret
  exact ⟨rfl, (by repeat' (first | (with_reducible exact Below.refl _ _) | (with_reducible assumption) | (with_reducible refine Below.drew ?_) | (with_reducible refine below_drewN ?_ _) | (with_reducible refine bel_alloc ?_ _) | (with_reducible refine Below.setCell ?_ ?_ _) | (with_reducible refine bel_call ?_ (by assumption)) | (simp <;> omega)))⟩

end Hlc
end Go.Proofs.Ytogooghigeemaaa
