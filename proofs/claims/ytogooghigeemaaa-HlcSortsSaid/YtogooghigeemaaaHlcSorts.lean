/- The walk of HlcSorts. -/
import Derived.Test.YtogooghigeemaaaHlcBytesW
import Derived.Test.YtogooghigeemaaaHlcSteps
import Derived.Test.YtogooghigeemaaaLex
namespace Go.Proofs.Ytogooghigeemaaa
open Go.RowKit
namespace Hlc
theorem bytesL_val {a b : Int} (h : right a b = true) : valL (bytesL a b) = a * 65536 + b := by
  have hb := right_iff.1 h
  unfold bytesL
  simp [valL]
  omega
theorem bytesL_lt {a b c d : Int} (h : right a b = true) (k : right c d = true) : lexLt (bytesL a b) (bytesL c d) = decide (cmpS a b c d < 0) := by
  rw [lex_val (l := bytesL a b) (m := bytesL c d) rfl (bytesL_rng h) (bytesL_rng k), bytesL_val h, bytesL_val k]
  have h1 := right_iff.1 h
  have h2 := right_iff.1 k
  rw [decide_eq_decide, cmp_lt]
  omega
theorem cmp_eq {a b c d : Int} : cmpS a b c d = 0 ↔ (a = c ∧ b = d) := by
  have h1 := @cmp_lt a b c d
  have h2 := @cmp_gt a b c d
  constructor
  · intro h; omega
  · intro h
    have n1 : ¬ cmpS a b c d < 0 := by rw [h1]; omega
    have n2 : ¬ 0 < cmpS a b c d := by rw [h2]; omega
    omega
theorem bytesL_inj {a b c d : Int} (h : right a b = true) (k : right c d = true) : decide (bytesL a b = bytesL c d) = (cmpS a b c d == 0) := by
  rw [Bool.eq_iff_iff, decide_eq_true_eq, beq_iff_eq, cmp_eq]
  constructor
  · intro e
    have := congrArg valL e
    rw [bytesL_val h, bytesL_val k] at this
    have h1 := right_iff.1 h
    have h2 := right_iff.1 k
    omega
  · rintro ⟨rfl, rfl⟩; rfl
theorem readL_bytes {a b : Int} (h : right a b = true) : readL (bytesL a b) = (a, b, 0) := by
  have hb := right_iff.1 h
  have e1 : wallL (a / 281474976710656) (a / 1099511627776 % 256) (a / 4294967296 % 256) (a / 16777216 % 256) (a / 65536 % 256) (a / 256 % 256) (a % 256) = a := by unfold wallL; omega
  have e2 : b / 256 * 256 + b % 256 = b := by omega
  unfold readL
  rw [if_pos (show (bytesL a b).length = 9 from rfl)]
  show readF (a / 281474976710656) (a / 1099511627776 % 256) (a / 4294967296 % 256) (a / 16777216 % 256) (a / 65536 % 256) (a / 256 % 256) (a % 256) (b / 256) (b % 256) = _
  unfold readF
  rw [e1, e2, if_pos h]
theorem prev_next {a b : Int} (h : (next a b).2.2 = 0) : prev (next a b).1 (next a b).2.1 = (a, b, 0) ∧ cmpS a b (next a b).1 (next a b).2.1 = -1 := by
  obtain ⟨hr, hr2, hc, _⟩ := next_ok h
  have e : next a b = if right a b = false then (0, 0, 80) else if a = 9007199254740991 ∧ b = 65535 then (0, 0, 82) else if b = 65535 then (a + 1, 0, 0) else (a, b + 1, 0) := rfl
  have hb := right_iff.1 hr
  rw [if_neg (by simp [hr])] at e
  by_cases h2 : a = 9007199254740991 ∧ b = 65535
  · rw [if_pos h2] at e; rw [e] at h; simp at h
  · rw [if_neg h2] at e
    by_cases h3 : b = 65535
    · rw [if_pos h3] at e
      rw [e] at hr2 ⊢
      refine ⟨?_, rcmp1 (by simp; omega)⟩
      unfold prev
      simp only at hr2 ⊢
      rw [if_neg (by simp [hr2]), if_neg (by omega)]
      simp [h3]
    · rw [if_neg h3] at e
      rw [e] at hr2 ⊢
      refine ⟨?_, rcmp3 rfl (by simp; omega)⟩
      unfold prev
      simp only at hr2 ⊢
      rw [if_neg (by simp [hr2]), if_neg (by omega), if_neg (by omega)]
      simp
set_option maxHeartbeats 1000000 in
theorem sorts_no (a b c d : Int) (w : World) (h : right a b = false ∨ right a b = true ∧ right c d = false) :
    Calls Try.prog 8 #[.agg #[.int .i64 a, .int .i64 b], .agg #[.int .i64 c, .int .i64 d]] w (Ret (.bool true) w) := by
  rcases h with h | ⟨h, h'⟩
  · go_enter Try.func8, Try.ntmps8
    -- boxes
    go_wp2_with fail
    refine (awake_any _).mono ?_
    rintro e w1 ⟨rfl, hb⟩
    replace kb0_0 : w1.cell? ⟨w.heap.size, 0, none⟩ = some (.int .i64 a) := (hb.cell (p := ⟨w.heap.size, 0, none⟩) (by simp <;> omega)).trans (by go_simp)
    replace kb0_1 : w1.cell? ⟨w.heap.size, 1, none⟩ = some (.int .i64 b) := (hb.cell (p := ⟨w.heap.size, 1, none⟩) (by simp <;> omega)).trans (by go_simp)
    replace kb1_0 : w1.cell? ⟨w.heap.size+1, 0, none⟩ = some (.int .i64 c) := (hb.cell (p := ⟨w.heap.size+1, 0, none⟩) (by simp <;> omega)).trans (by go_simp)
    replace kb1_1 : w1.cell? ⟨w.heap.size+1, 1, none⟩ = some (.int .i64 d) := (hb.cell (p := ⟨w.heap.size+1, 1, none⟩) (by simp <;> omega)).trans (by go_simp)
    have zb1 := hb.size; (try simp at zb1)
    replace zz : w.heap.size ≤ w1.heap.size := by omega
    replace ybw_heap_size : w.heap.size < w1.heap.size := by omega
    replace ybw_heap_size_1 : w.heap.size+1 < w1.heap.size := by omega
    replace gg : Below w.heap.size w w1 := (by repeat' (first | (with_reducible exact Below.refl _ _) | (with_reducible assumption) | (with_reducible refine Below.drew ?_) | (with_reducible refine below_drewN ?_ _) | (with_reducible refine bel_alloc ?_ _) | (with_reducible refine Below.setCell ?_ ?_ _) | (with_reducible refine bel_call ?_ (by assumption)) | (simp <;> omega)))
    clear hb
    go_wp2_with fail
    refine (rRight_any a b _).mono ?_
    rintro e w2 ⟨rfl, hb⟩
    replace kb0_0 : w2.cell? ⟨w.heap.size, 0, none⟩ = some (.int .i64 a) := (hb.cell (p := ⟨w.heap.size, 0, none⟩) (by simp <;> omega)).trans (by go_simp)
    replace kb0_1 : w2.cell? ⟨w.heap.size, 1, none⟩ = some (.int .i64 b) := (hb.cell (p := ⟨w.heap.size, 1, none⟩) (by simp <;> omega)).trans (by go_simp)
    replace kb1_0 : w2.cell? ⟨w.heap.size+1, 0, none⟩ = some (.int .i64 c) := (hb.cell (p := ⟨w.heap.size+1, 0, none⟩) (by simp <;> omega)).trans (by go_simp)
    replace kb1_1 : w2.cell? ⟨w.heap.size+1, 1, none⟩ = some (.int .i64 d) := (hb.cell (p := ⟨w.heap.size+1, 1, none⟩) (by simp <;> omega)).trans (by go_simp)
    have zb2 := hb.size; (try simp at zb2)
    replace zz : w.heap.size ≤ w2.heap.size := by omega
    replace ybw_heap_size : w.heap.size < w2.heap.size := by omega
    replace ybw_heap_size_1 : w.heap.size+1 < w2.heap.size := by omega
    replace gg : Below w.heap.size w w2 := (by repeat' (first | (with_reducible exact Below.refl _ _) | (with_reducible assumption) | (with_reducible refine Below.drew ?_) | (with_reducible refine below_drewN ?_ _) | (with_reducible refine bel_alloc ?_ _) | (with_reducible refine Below.setCell ?_ ?_ _) | (with_reducible refine bel_call ?_ (by assumption)) | (simp <;> omega)))
    clear hb
    go_wp2_with fail
    refine (rRight_any c d _).mono ?_
    rintro e w3 ⟨rfl, hb⟩
    replace kb0_0 : w3.cell? ⟨w.heap.size, 0, none⟩ = some (.int .i64 a) := (hb.cell (p := ⟨w.heap.size, 0, none⟩) (by simp <;> omega)).trans (by go_simp)
    replace kb0_1 : w3.cell? ⟨w.heap.size, 1, none⟩ = some (.int .i64 b) := (hb.cell (p := ⟨w.heap.size, 1, none⟩) (by simp <;> omega)).trans (by go_simp)
    replace kb1_0 : w3.cell? ⟨w.heap.size+1, 0, none⟩ = some (.int .i64 c) := (hb.cell (p := ⟨w.heap.size+1, 0, none⟩) (by simp <;> omega)).trans (by go_simp)
    replace kb1_1 : w3.cell? ⟨w.heap.size+1, 1, none⟩ = some (.int .i64 d) := (hb.cell (p := ⟨w.heap.size+1, 1, none⟩) (by simp <;> omega)).trans (by go_simp)
    have zb3 := hb.size; (try simp at zb3)
    replace zz : w.heap.size ≤ w3.heap.size := by omega
    replace ybw_heap_size : w.heap.size < w3.heap.size := by omega
    replace ybw_heap_size_1 : w.heap.size+1 < w3.heap.size := by omega
    replace gg : Below w.heap.size w w3 := (by repeat' (first | (with_reducible exact Below.refl _ _) | (with_reducible assumption) | (with_reducible refine Below.drew ?_) | (with_reducible refine below_drewN ?_ _) | (with_reducible refine bel_alloc ?_ _) | (with_reducible refine Below.setCell ?_ ?_ _) | (with_reducible refine bel_call ?_ (by assumption)) | (simp <;> omega)))
    clear hb
    go_wp2_with fail
    go_ret
    exact ⟨rfl, gg⟩
  · go_enter Try.func8, Try.ntmps8
    -- boxes
    go_wp2_with fail
    refine (awake_any _).mono ?_
    rintro e w1 ⟨rfl, hb⟩
    replace kb0_0 : w1.cell? ⟨w.heap.size, 0, none⟩ = some (.int .i64 a) := (hb.cell (p := ⟨w.heap.size, 0, none⟩) (by simp <;> omega)).trans (by go_simp)
    replace kb0_1 : w1.cell? ⟨w.heap.size, 1, none⟩ = some (.int .i64 b) := (hb.cell (p := ⟨w.heap.size, 1, none⟩) (by simp <;> omega)).trans (by go_simp)
    replace kb1_0 : w1.cell? ⟨w.heap.size+1, 0, none⟩ = some (.int .i64 c) := (hb.cell (p := ⟨w.heap.size+1, 0, none⟩) (by simp <;> omega)).trans (by go_simp)
    replace kb1_1 : w1.cell? ⟨w.heap.size+1, 1, none⟩ = some (.int .i64 d) := (hb.cell (p := ⟨w.heap.size+1, 1, none⟩) (by simp <;> omega)).trans (by go_simp)
    have zb1 := hb.size; (try simp at zb1)
    replace zz : w.heap.size ≤ w1.heap.size := by omega
    replace ybw_heap_size : w.heap.size < w1.heap.size := by omega
    replace ybw_heap_size_1 : w.heap.size+1 < w1.heap.size := by omega
    replace gg : Below w.heap.size w w1 := (by repeat' (first | (with_reducible exact Below.refl _ _) | (with_reducible assumption) | (with_reducible refine Below.drew ?_) | (with_reducible refine below_drewN ?_ _) | (with_reducible refine bel_alloc ?_ _) | (with_reducible refine Below.setCell ?_ ?_ _) | (with_reducible refine bel_call ?_ (by assumption)) | (simp <;> omega)))
    clear hb
    go_wp2_with fail
    refine (rRight_any a b _).mono ?_
    rintro e w2 ⟨rfl, hb⟩
    replace kb0_0 : w2.cell? ⟨w.heap.size, 0, none⟩ = some (.int .i64 a) := (hb.cell (p := ⟨w.heap.size, 0, none⟩) (by simp <;> omega)).trans (by go_simp)
    replace kb0_1 : w2.cell? ⟨w.heap.size, 1, none⟩ = some (.int .i64 b) := (hb.cell (p := ⟨w.heap.size, 1, none⟩) (by simp <;> omega)).trans (by go_simp)
    replace kb1_0 : w2.cell? ⟨w.heap.size+1, 0, none⟩ = some (.int .i64 c) := (hb.cell (p := ⟨w.heap.size+1, 0, none⟩) (by simp <;> omega)).trans (by go_simp)
    replace kb1_1 : w2.cell? ⟨w.heap.size+1, 1, none⟩ = some (.int .i64 d) := (hb.cell (p := ⟨w.heap.size+1, 1, none⟩) (by simp <;> omega)).trans (by go_simp)
    have zb2 := hb.size; (try simp at zb2)
    replace zz : w.heap.size ≤ w2.heap.size := by omega
    replace ybw_heap_size : w.heap.size < w2.heap.size := by omega
    replace ybw_heap_size_1 : w.heap.size+1 < w2.heap.size := by omega
    replace gg : Below w.heap.size w w2 := (by repeat' (first | (with_reducible exact Below.refl _ _) | (with_reducible assumption) | (with_reducible refine Below.drew ?_) | (with_reducible refine below_drewN ?_ _) | (with_reducible refine bel_alloc ?_ _) | (with_reducible refine Below.setCell ?_ ?_ _) | (with_reducible refine bel_call ?_ (by assumption)) | (simp <;> omega)))
    clear hb
    go_wp2_with fail
    refine (rRight_any c d _).mono ?_
    rintro e w3 ⟨rfl, hb⟩
    replace kb0_0 : w3.cell? ⟨w.heap.size, 0, none⟩ = some (.int .i64 a) := (hb.cell (p := ⟨w.heap.size, 0, none⟩) (by simp <;> omega)).trans (by go_simp)
    replace kb0_1 : w3.cell? ⟨w.heap.size, 1, none⟩ = some (.int .i64 b) := (hb.cell (p := ⟨w.heap.size, 1, none⟩) (by simp <;> omega)).trans (by go_simp)
    replace kb1_0 : w3.cell? ⟨w.heap.size+1, 0, none⟩ = some (.int .i64 c) := (hb.cell (p := ⟨w.heap.size+1, 0, none⟩) (by simp <;> omega)).trans (by go_simp)
    replace kb1_1 : w3.cell? ⟨w.heap.size+1, 1, none⟩ = some (.int .i64 d) := (hb.cell (p := ⟨w.heap.size+1, 1, none⟩) (by simp <;> omega)).trans (by go_simp)
    have zb3 := hb.size; (try simp at zb3)
    replace zz : w.heap.size ≤ w3.heap.size := by omega
    replace ybw_heap_size : w.heap.size < w3.heap.size := by omega
    replace ybw_heap_size_1 : w.heap.size+1 < w3.heap.size := by omega
    replace gg : Below w.heap.size w w3 := (by repeat' (first | (with_reducible exact Below.refl _ _) | (with_reducible assumption) | (with_reducible refine Below.drew ?_) | (with_reducible refine below_drewN ?_ _) | (with_reducible refine bel_alloc ?_ _) | (with_reducible refine Below.setCell ?_ ?_ _) | (with_reducible refine bel_call ?_ (by assumption)) | (simp <;> omega)))
    clear hb
    go_wp2_with fail
    go_ret
    exact ⟨rfl, gg⟩
set_option maxRecDepth 100000 in
set_option maxHeartbeats 4000000 in
theorem sorts_yes (a b c d : Int) (w : World) (h : right a b = true) (k : right c d = true) :
    Calls Try.prog 8 #[.agg #[.int .i64 a, .int .i64 b], .agg #[.int .i64 c, .int .i64 d]] w (Ret (.bool true) w) := by
  have HA := Lib.hid h
  have HC := Lib.hid k
  go_enter Try.func8, Try.ntmps8
  -- boxes
  go_wp2_with fail
  refine (awake_any _).mono ?_
  rintro e w1 ⟨rfl, hb⟩
  replace kb0_0 : w1.cell? ⟨w.heap.size, 0, none⟩ = some (.int .i64 a) := (hb.cell (p := ⟨w.heap.size, 0, none⟩) (by simp <;> omega)).trans (by go_simp)
  replace kb0_1 : w1.cell? ⟨w.heap.size, 1, none⟩ = some (.int .i64 b) := (hb.cell (p := ⟨w.heap.size, 1, none⟩) (by simp <;> omega)).trans (by go_simp)
  replace kb1_0 : w1.cell? ⟨w.heap.size+1, 0, none⟩ = some (.int .i64 c) := (hb.cell (p := ⟨w.heap.size+1, 0, none⟩) (by simp <;> omega)).trans (by go_simp)
  replace kb1_1 : w1.cell? ⟨w.heap.size+1, 1, none⟩ = some (.int .i64 d) := (hb.cell (p := ⟨w.heap.size+1, 1, none⟩) (by simp <;> omega)).trans (by go_simp)
  have zb1 := hb.size; (try simp at zb1)
  replace zz : w.heap.size ≤ w1.heap.size := by omega
  replace ybw_heap_size : w.heap.size < w1.heap.size := by omega
  replace ybw_heap_size_1 : w.heap.size+1 < w1.heap.size := by omega
  replace gg : Below w.heap.size w w1 := (by repeat' (first | (with_reducible exact Below.refl _ _) | (with_reducible assumption) | (with_reducible refine Below.drew ?_) | (with_reducible refine below_drewN ?_ _) | (with_reducible refine bel_alloc ?_ _) | (with_reducible refine Below.setCell ?_ ?_ _) | (with_reducible refine bel_call ?_ (by assumption)) | (simp <;> omega)))
  clear hb
  go_wp2_with fail
  refine (rRight_any a b _).mono ?_
  rintro e w2 ⟨rfl, hb⟩
  replace kb0_0 : w2.cell? ⟨w.heap.size, 0, none⟩ = some (.int .i64 a) := (hb.cell (p := ⟨w.heap.size, 0, none⟩) (by simp <;> omega)).trans (by go_simp)
  replace kb0_1 : w2.cell? ⟨w.heap.size, 1, none⟩ = some (.int .i64 b) := (hb.cell (p := ⟨w.heap.size, 1, none⟩) (by simp <;> omega)).trans (by go_simp)
  replace kb1_0 : w2.cell? ⟨w.heap.size+1, 0, none⟩ = some (.int .i64 c) := (hb.cell (p := ⟨w.heap.size+1, 0, none⟩) (by simp <;> omega)).trans (by go_simp)
  replace kb1_1 : w2.cell? ⟨w.heap.size+1, 1, none⟩ = some (.int .i64 d) := (hb.cell (p := ⟨w.heap.size+1, 1, none⟩) (by simp <;> omega)).trans (by go_simp)
  have zb2 := hb.size; (try simp at zb2)
  replace zz : w.heap.size ≤ w2.heap.size := by omega
  replace ybw_heap_size : w.heap.size < w2.heap.size := by omega
  replace ybw_heap_size_1 : w.heap.size+1 < w2.heap.size := by omega
  replace gg : Below w.heap.size w w2 := (by repeat' (first | (with_reducible exact Below.refl _ _) | (with_reducible assumption) | (with_reducible refine Below.drew ?_) | (with_reducible refine below_drewN ?_ _) | (with_reducible refine bel_alloc ?_ _) | (with_reducible refine Below.setCell ?_ ?_ _) | (with_reducible refine bel_call ?_ (by assumption)) | (simp <;> omega)))
  clear hb
  go_wp2_with fail
  refine (rRight_any c d _).mono ?_
  rintro e w3 ⟨rfl, hb⟩
  replace kb0_0 : w3.cell? ⟨w.heap.size, 0, none⟩ = some (.int .i64 a) := (hb.cell (p := ⟨w.heap.size, 0, none⟩) (by simp <;> omega)).trans (by go_simp)
  replace kb0_1 : w3.cell? ⟨w.heap.size, 1, none⟩ = some (.int .i64 b) := (hb.cell (p := ⟨w.heap.size, 1, none⟩) (by simp <;> omega)).trans (by go_simp)
  replace kb1_0 : w3.cell? ⟨w.heap.size+1, 0, none⟩ = some (.int .i64 c) := (hb.cell (p := ⟨w.heap.size+1, 0, none⟩) (by simp <;> omega)).trans (by go_simp)
  replace kb1_1 : w3.cell? ⟨w.heap.size+1, 1, none⟩ = some (.int .i64 d) := (hb.cell (p := ⟨w.heap.size+1, 1, none⟩) (by simp <;> omega)).trans (by go_simp)
  have zb3 := hb.size; (try simp at zb3)
  replace zz : w.heap.size ≤ w3.heap.size := by omega
  replace ybw_heap_size : w.heap.size < w3.heap.size := by omega
  replace ybw_heap_size_1 : w.heap.size+1 < w3.heap.size := by omega
  replace gg : Below w.heap.size w w3 := (by repeat' (first | (with_reducible exact Below.refl _ _) | (with_reducible assumption) | (with_reducible refine Below.drew ?_) | (with_reducible refine below_drewN ?_ _) | (with_reducible refine bel_alloc ?_ _) | (with_reducible refine Below.setCell ?_ ?_ _) | (with_reducible refine bel_call ?_ (by assumption)) | (simp <;> omega)))
  clear hb
  go_wp2_with fail
  refine (bytes_ok a b _ HA.out).mono ?_
  rintro e w4 ⟨xv, rfl, hox, hb⟩
  replace kb0_0 : w4.cell? ⟨w.heap.size, 0, none⟩ = some (.int .i64 a) := (hb.cell (p := ⟨w.heap.size, 0, none⟩) (by simp <;> omega)).trans (by go_simp)
  replace kb0_1 : w4.cell? ⟨w.heap.size, 1, none⟩ = some (.int .i64 b) := (hb.cell (p := ⟨w.heap.size, 1, none⟩) (by simp <;> omega)).trans (by go_simp)
  replace kb1_0 : w4.cell? ⟨w.heap.size+1, 0, none⟩ = some (.int .i64 c) := (hb.cell (p := ⟨w.heap.size+1, 0, none⟩) (by simp <;> omega)).trans (by go_simp)
  replace kb1_1 : w4.cell? ⟨w.heap.size+1, 1, none⟩ = some (.int .i64 d) := (hb.cell (p := ⟨w.heap.size+1, 1, none⟩) (by simp <;> omega)).trans (by go_simp)
  have zb4 := hb.size; (try simp at zb4)
  replace zz : w.heap.size ≤ w4.heap.size := by omega
  replace ybw_heap_size : w.heap.size < w4.heap.size := by omega
  replace ybw_heap_size_1 : w.heap.size+1 < w4.heap.size := by omega
  replace gg : Below w.heap.size w w4 := (by repeat' (first | (with_reducible exact Below.refl _ _) | (with_reducible assumption) | (with_reducible refine Below.drew ?_) | (with_reducible refine below_drewN ?_ _) | (with_reducible refine bel_alloc ?_ _) | (with_reducible refine Below.setCell ?_ ?_ _) | (with_reducible refine bel_call ?_ (by assumption)) | (simp <;> omega)))
  clear hb
  have HX := Lib.hid (IsB.of_own hox (bytesL_rng HA.out))
  clear hox h k
  have gx : Below w4.heap.size w4 w4 := Below.refl _ _
  go_wp2_with fail
  refine (bytes_ok c d _ HC.out).mono ?_
  rintro e w5 ⟨yv, rfl, hoy, hb⟩
  replace kb0_0 : w5.cell? ⟨w.heap.size, 0, none⟩ = some (.int .i64 a) := (hb.cell (p := ⟨w.heap.size, 0, none⟩) (by simp <;> omega)).trans (by go_simp)
  replace kb0_1 : w5.cell? ⟨w.heap.size, 1, none⟩ = some (.int .i64 b) := (hb.cell (p := ⟨w.heap.size, 1, none⟩) (by simp <;> omega)).trans (by go_simp)
  replace kb1_0 : w5.cell? ⟨w.heap.size+1, 0, none⟩ = some (.int .i64 c) := (hb.cell (p := ⟨w.heap.size+1, 0, none⟩) (by simp <;> omega)).trans (by go_simp)
  replace kb1_1 : w5.cell? ⟨w.heap.size+1, 1, none⟩ = some (.int .i64 d) := (hb.cell (p := ⟨w.heap.size+1, 1, none⟩) (by simp <;> omega)).trans (by go_simp)
  have zb5 := hb.size; (try simp at zb5)
  replace zz : w.heap.size ≤ w5.heap.size := by omega
  replace ybw_heap_size : w.heap.size < w5.heap.size := by omega
  replace ybw_heap_size_1 : w.heap.size+1 < w5.heap.size := by omega
  replace gg : Below w.heap.size w w5 := (by repeat' (first | (with_reducible exact Below.refl _ _) | (with_reducible assumption) | (with_reducible refine Below.drew ?_) | (with_reducible refine below_drewN ?_ _) | (with_reducible refine bel_alloc ?_ _) | (with_reducible refine Below.setCell ?_ ?_ _) | (with_reducible refine bel_call ?_ (by assumption)) | (simp <;> omega)))
  replace gx : Below w4.heap.size w4 w5 := bel_call (by repeat' (first | (with_reducible exact Below.refl _ _) | (with_reducible assumption) | (with_reducible refine Below.drew ?_) | (with_reducible refine below_drewN ?_ _) | (with_reducible refine bel_alloc ?_ _) | (with_reducible refine Below.setCell ?_ ?_ _) | (with_reducible refine bel_call ?_ (by assumption)) | (simp <;> omega))) hb
  clear hb
  have HY := Lib.hid (IsB.of_own hoy (bytesL_rng HC.out))
  clear hoy
  have gy : Below w5.heap.size w5 w5 := Below.refl _ _
  go_wp2_with fail
  refine (compare_any a b c d _).mono ?_
  rintro e w6 ⟨rfl, hb⟩
  replace kb0_0 : w6.cell? ⟨w.heap.size, 0, none⟩ = some (.int .i64 a) := (hb.cell (p := ⟨w.heap.size, 0, none⟩) (by simp <;> omega)).trans (by go_simp)
  replace kb0_1 : w6.cell? ⟨w.heap.size, 1, none⟩ = some (.int .i64 b) := (hb.cell (p := ⟨w.heap.size, 1, none⟩) (by simp <;> omega)).trans (by go_simp)
  replace kb1_0 : w6.cell? ⟨w.heap.size+1, 0, none⟩ = some (.int .i64 c) := (hb.cell (p := ⟨w.heap.size+1, 0, none⟩) (by simp <;> omega)).trans (by go_simp)
  replace kb1_1 : w6.cell? ⟨w.heap.size+1, 1, none⟩ = some (.int .i64 d) := (hb.cell (p := ⟨w.heap.size+1, 1, none⟩) (by simp <;> omega)).trans (by go_simp)
  have zb6 := hb.size; (try simp at zb6)
  replace zz : w.heap.size ≤ w6.heap.size := by omega
  replace ybw_heap_size : w.heap.size < w6.heap.size := by omega
  replace ybw_heap_size_1 : w.heap.size+1 < w6.heap.size := by omega
  replace gg : Below w.heap.size w w6 := (by repeat' (first | (with_reducible exact Below.refl _ _) | (with_reducible assumption) | (with_reducible refine Below.drew ?_) | (with_reducible refine below_drewN ?_ _) | (with_reducible refine bel_alloc ?_ _) | (with_reducible refine Below.setCell ?_ ?_ _) | (with_reducible refine bel_call ?_ (by assumption)) | (simp <;> omega)))
  replace gx : Below w4.heap.size w4 w6 := bel_call (by repeat' (first | (with_reducible exact Below.refl _ _) | (with_reducible assumption) | (with_reducible refine Below.drew ?_) | (with_reducible refine below_drewN ?_ _) | (with_reducible refine bel_alloc ?_ _) | (with_reducible refine Below.setCell ?_ ?_ _) | (with_reducible refine bel_call ?_ (by assumption)) | (simp <;> omega))) hb
  replace gy : Below w5.heap.size w5 w6 := bel_call (by repeat' (first | (with_reducible exact Below.refl _ _) | (with_reducible assumption) | (with_reducible refine Below.drew ?_) | (with_reducible refine below_drewN ?_ _) | (with_reducible refine bel_alloc ?_ _) | (with_reducible refine Below.setCell ?_ ?_ _) | (with_reducible refine bel_call ?_ (by assumption)) | (simp <;> omega))) hb
  clear hb
  have er := readL_bytes HA.out
  go_wp2_with fail
  refine (read_any xv (bytesL a b) _ (HX.out.below gx)).mono ?_
  rintro e w7 ⟨rfl, hb⟩
  replace kb0_0 : w7.cell? ⟨w.heap.size, 0, none⟩ = some (.int .i64 a) := (hb.cell (p := ⟨w.heap.size, 0, none⟩) (by simp <;> omega)).trans (by go_simp)
  replace kb0_1 : w7.cell? ⟨w.heap.size, 1, none⟩ = some (.int .i64 b) := (hb.cell (p := ⟨w.heap.size, 1, none⟩) (by simp <;> omega)).trans (by go_simp)
  replace kb1_0 : w7.cell? ⟨w.heap.size+1, 0, none⟩ = some (.int .i64 c) := (hb.cell (p := ⟨w.heap.size+1, 0, none⟩) (by simp <;> omega)).trans (by go_simp)
  replace kb1_1 : w7.cell? ⟨w.heap.size+1, 1, none⟩ = some (.int .i64 d) := (hb.cell (p := ⟨w.heap.size+1, 1, none⟩) (by simp <;> omega)).trans (by go_simp)
  have zb7 := hb.size; (try simp at zb7)
  replace zz : w.heap.size ≤ w7.heap.size := by omega
  replace ybw_heap_size : w.heap.size < w7.heap.size := by omega
  replace ybw_heap_size_1 : w.heap.size+1 < w7.heap.size := by omega
  replace gg : Below w.heap.size w w7 := (by repeat' (first | (with_reducible exact Below.refl _ _) | (with_reducible assumption) | (with_reducible refine Below.drew ?_) | (with_reducible refine below_drewN ?_ _) | (with_reducible refine bel_alloc ?_ _) | (with_reducible refine Below.setCell ?_ ?_ _) | (with_reducible refine bel_call ?_ (by assumption)) | (simp <;> omega)))
  replace gx : Below w4.heap.size w4 w7 := bel_call (by repeat' (first | (with_reducible exact Below.refl _ _) | (with_reducible assumption) | (with_reducible refine Below.drew ?_) | (with_reducible refine below_drewN ?_ _) | (with_reducible refine bel_alloc ?_ _) | (with_reducible refine Below.setCell ?_ ?_ _) | (with_reducible refine bel_call ?_ (by assumption)) | (simp <;> omega))) hb
  replace gy : Below w5.heap.size w5 w7 := bel_call (by repeat' (first | (with_reducible exact Below.refl _ _) | (with_reducible assumption) | (with_reducible refine Below.drew ?_) | (with_reducible refine below_drewN ?_ _) | (with_reducible refine bel_alloc ?_ _) | (with_reducible refine Below.setCell ?_ ?_ _) | (with_reducible refine bel_call ?_ (by assumption)) | (simp <;> omega))) hb
  clear hb
  rw [er]
  clear er
  unfold vse
  go_wp2_with fail
  refine (next_any a b _).mono ?_
  rintro e w8 ⟨rfl, hb⟩
  replace kb0_0 : w8.cell? ⟨w.heap.size, 0, none⟩ = some (.int .i64 a) := (hb.cell (p := ⟨w.heap.size, 0, none⟩) (by simp <;> omega)).trans (by go_simp)
  replace kb0_1 : w8.cell? ⟨w.heap.size, 1, none⟩ = some (.int .i64 b) := (hb.cell (p := ⟨w.heap.size, 1, none⟩) (by simp <;> omega)).trans (by go_simp)
  replace kb1_0 : w8.cell? ⟨w.heap.size+1, 0, none⟩ = some (.int .i64 c) := (hb.cell (p := ⟨w.heap.size+1, 0, none⟩) (by simp <;> omega)).trans (by go_simp)
  replace kb1_1 : w8.cell? ⟨w.heap.size+1, 1, none⟩ = some (.int .i64 d) := (hb.cell (p := ⟨w.heap.size+1, 1, none⟩) (by simp <;> omega)).trans (by go_simp)
  have zb8 := hb.size; (try simp at zb8)
  replace zz : w.heap.size ≤ w8.heap.size := by omega
  replace ybw_heap_size : w.heap.size < w8.heap.size := by omega
  replace ybw_heap_size_1 : w.heap.size+1 < w8.heap.size := by omega
  replace gg : Below w.heap.size w w8 := (by repeat' (first | (with_reducible exact Below.refl _ _) | (with_reducible assumption) | (with_reducible refine Below.drew ?_) | (with_reducible refine below_drewN ?_ _) | (with_reducible refine bel_alloc ?_ _) | (with_reducible refine Below.setCell ?_ ?_ _) | (with_reducible refine bel_call ?_ (by assumption)) | (simp <;> omega)))
  replace gx : Below w4.heap.size w4 w8 := bel_call (by repeat' (first | (with_reducible exact Below.refl _ _) | (with_reducible assumption) | (with_reducible refine Below.drew ?_) | (with_reducible refine below_drewN ?_ _) | (with_reducible refine bel_alloc ?_ _) | (with_reducible refine Below.setCell ?_ ?_ _) | (with_reducible refine bel_call ?_ (by assumption)) | (simp <;> omega))) hb
  replace gy : Below w5.heap.size w5 w8 := bel_call (by repeat' (first | (with_reducible exact Below.refl _ _) | (with_reducible assumption) | (with_reducible refine Below.drew ?_) | (with_reducible refine below_drewN ?_ _) | (with_reducible refine bel_alloc ?_ _) | (with_reducible refine Below.setCell ?_ ?_ _) | (with_reducible refine bel_call ?_ (by assumption)) | (simp <;> omega))) hb
  clear hb
  unfold vse
  by_cases hE : (next a b).2.2 = 0
  · have pn := prev_next hE
    have PN := Lib.hid pn
    have hE1 : ((next a b).2.2 == 0) = true := by simp [hE]
    clear pn hE
    go_wp2_with fail
    -- boxes
    go_wp2_with fail
    refine (prev_any (next a b).1 (next a b).2.1 _).mono ?_
    rintro e w9 ⟨rfl, hb⟩
    replace kb0_0 : w9.cell? ⟨w.heap.size, 0, none⟩ = some (.int .i64 a) := (hb.cell (p := ⟨w.heap.size, 0, none⟩) (by simp <;> omega)).trans (by go_simp)
    replace kb0_1 : w9.cell? ⟨w.heap.size, 1, none⟩ = some (.int .i64 b) := (hb.cell (p := ⟨w.heap.size, 1, none⟩) (by simp <;> omega)).trans (by go_simp)
    replace kb1_0 : w9.cell? ⟨w.heap.size+1, 0, none⟩ = some (.int .i64 c) := (hb.cell (p := ⟨w.heap.size+1, 0, none⟩) (by simp <;> omega)).trans (by go_simp)
    replace kb1_1 : w9.cell? ⟨w.heap.size+1, 1, none⟩ = some (.int .i64 d) := (hb.cell (p := ⟨w.heap.size+1, 1, none⟩) (by simp <;> omega)).trans (by go_simp)
    replace kb2_0 : w9.cell? ⟨w8.heap.size, 0, none⟩ = some (.int .i64 (next a b).1) := (hb.cell (p := ⟨w8.heap.size, 0, none⟩) (by simp <;> omega)).trans (by go_simp)
    replace kb2_1 : w9.cell? ⟨w8.heap.size, 1, none⟩ = some (.int .i64 (next a b).2.1) := (hb.cell (p := ⟨w8.heap.size, 1, none⟩) (by simp <;> omega)).trans (by go_simp)
    have zb9 := hb.size; (try simp at zb9)
    replace zz : w.heap.size ≤ w9.heap.size := by omega
    replace ybw_heap_size : w.heap.size < w9.heap.size := by omega
    replace ybw_heap_size_1 : w.heap.size+1 < w9.heap.size := by omega
    replace ybw8_heap_size : w8.heap.size < w9.heap.size := by omega
    replace gg : Below w.heap.size w w9 := (by repeat' (first | (with_reducible exact Below.refl _ _) | (with_reducible assumption) | (with_reducible refine Below.drew ?_) | (with_reducible refine below_drewN ?_ _) | (with_reducible refine bel_alloc ?_ _) | (with_reducible refine Below.setCell ?_ ?_ _) | (with_reducible refine bel_call ?_ (by assumption)) | (simp <;> omega)))
    replace gx : Below w4.heap.size w4 w9 := bel_call (by repeat' (first | (with_reducible exact Below.refl _ _) | (with_reducible assumption) | (with_reducible refine Below.drew ?_) | (with_reducible refine below_drewN ?_ _) | (with_reducible refine bel_alloc ?_ _) | (with_reducible refine Below.setCell ?_ ?_ _) | (with_reducible refine bel_call ?_ (by assumption)) | (simp <;> omega))) hb
    replace gy : Below w5.heap.size w5 w9 := bel_call (by repeat' (first | (with_reducible exact Below.refl _ _) | (with_reducible assumption) | (with_reducible refine Below.drew ?_) | (with_reducible refine below_drewN ?_ _) | (with_reducible refine bel_alloc ?_ _) | (with_reducible refine Below.setCell ?_ ?_ _) | (with_reducible refine bel_call ?_ (by assumption)) | (simp <;> omega))) hb
    clear hb
    rw [PN.out.1]
    unfold vse
    go_wp2_with fail
    -- boxes
    go_wp2_with fail
    refine (compare_any a b (next a b).1 (next a b).2.1 _).mono ?_
    rintro e w10 ⟨rfl, hb⟩
    replace kb0_0 : w10.cell? ⟨w.heap.size, 0, none⟩ = some (.int .i64 a) := (hb.cell (p := ⟨w.heap.size, 0, none⟩) (by simp <;> omega)).trans (by go_simp)
    replace kb0_1 : w10.cell? ⟨w.heap.size, 1, none⟩ = some (.int .i64 b) := (hb.cell (p := ⟨w.heap.size, 1, none⟩) (by simp <;> omega)).trans (by go_simp)
    replace kb1_0 : w10.cell? ⟨w.heap.size+1, 0, none⟩ = some (.int .i64 c) := (hb.cell (p := ⟨w.heap.size+1, 0, none⟩) (by simp <;> omega)).trans (by go_simp)
    replace kb1_1 : w10.cell? ⟨w.heap.size+1, 1, none⟩ = some (.int .i64 d) := (hb.cell (p := ⟨w.heap.size+1, 1, none⟩) (by simp <;> omega)).trans (by go_simp)
    replace kb2_0 : w10.cell? ⟨w8.heap.size, 0, none⟩ = some (.int .i64 (next a b).1) := (hb.cell (p := ⟨w8.heap.size, 0, none⟩) (by simp <;> omega)).trans (by go_simp)
    replace kb2_1 : w10.cell? ⟨w8.heap.size, 1, none⟩ = some (.int .i64 (next a b).2.1) := (hb.cell (p := ⟨w8.heap.size, 1, none⟩) (by simp <;> omega)).trans (by go_simp)
    replace kb3_0 : w10.cell? ⟨w9.heap.size, 0, none⟩ = some (.int .i64 a) := (hb.cell (p := ⟨w9.heap.size, 0, none⟩) (by simp <;> omega)).trans (by go_simp)
    replace kb3_1 : w10.cell? ⟨w9.heap.size, 1, none⟩ = some (.int .i64 b) := (hb.cell (p := ⟨w9.heap.size, 1, none⟩) (by simp <;> omega)).trans (by go_simp)
    have zb10 := hb.size; (try simp at zb10)
    replace zz : w.heap.size ≤ w10.heap.size := by omega
    replace ybw_heap_size : w.heap.size < w10.heap.size := by omega
    replace ybw_heap_size_1 : w.heap.size+1 < w10.heap.size := by omega
    replace ybw8_heap_size : w8.heap.size < w10.heap.size := by omega
    replace ybw9_heap_size : w9.heap.size < w10.heap.size := by omega
    replace gg : Below w.heap.size w w10 := (by repeat' (first | (with_reducible exact Below.refl _ _) | (with_reducible assumption) | (with_reducible refine Below.drew ?_) | (with_reducible refine below_drewN ?_ _) | (with_reducible refine bel_alloc ?_ _) | (with_reducible refine Below.setCell ?_ ?_ _) | (with_reducible refine bel_call ?_ (by assumption)) | (simp <;> omega)))
    replace gx : Below w4.heap.size w4 w10 := bel_call (by repeat' (first | (with_reducible exact Below.refl _ _) | (with_reducible assumption) | (with_reducible refine Below.drew ?_) | (with_reducible refine below_drewN ?_ _) | (with_reducible refine bel_alloc ?_ _) | (with_reducible refine Below.setCell ?_ ?_ _) | (with_reducible refine bel_call ?_ (by assumption)) | (simp <;> omega))) hb
    replace gy : Below w5.heap.size w5 w10 := bel_call (by repeat' (first | (with_reducible exact Below.refl _ _) | (with_reducible assumption) | (with_reducible refine Below.drew ?_) | (with_reducible refine below_drewN ?_ _) | (with_reducible refine bel_alloc ?_ _) | (with_reducible refine Below.setCell ?_ ?_ _) | (with_reducible refine bel_call ?_ (by assumption)) | (simp <;> omega))) hb
    clear hb
    rw [PN.out.2]
    have c1 := (HX.out.below gx).conv Try.underlying24 Try.underlying5 Try.underlying9
    have c2 := (HY.out.below gy).conv Try.underlying24 Try.underlying5 Try.underlying9
    have s1 := (str_blt (bytesL_rng HA.out) (bytesL_rng HC.out)).trans (bytesL_lt HA.out HC.out)
    have s2 := (str_beq (bytesL_rng HA.out) (bytesL_rng HC.out)).trans (bytesL_inj HA.out HC.out)
    go_wp2_with fail
    go_ret
    exact ⟨rfl, gg⟩
  · have hE1 : ((next a b).2.2 == 0) = false := by simp [hE]
    clear hE
    have c1 := fun ob => ((HX.out.below gx).alloc ob).conv Try.underlying24 Try.underlying5 Try.underlying9
    have c2 := fun ob => ((HY.out.below gy).alloc ob).conv Try.underlying24 Try.underlying5 Try.underlying9
    have s1 := (str_blt (bytesL_rng HA.out) (bytesL_rng HC.out)).trans (bytesL_lt HA.out HC.out)
    have s2 := (str_beq (bytesL_rng HA.out) (bytesL_rng HC.out)).trans (bytesL_inj HA.out HC.out)
    go_wp2_with fail
    go_ret
    exact ⟨rfl, (by repeat' (first | (with_reducible exact Below.refl _ _) | (with_reducible assumption) | (with_reducible refine Below.drew ?_) | (with_reducible refine below_drewN ?_ _) | (with_reducible refine bel_alloc ?_ _) | (with_reducible refine Below.setCell ?_ ?_ _) | (with_reducible refine bel_call ?_ (by assumption)) | (simp <;> omega)))⟩
theorem sorts_walk (a b c d : Int) (w : World) :
    Calls Try.prog 8 #[.agg #[.int .i64 a, .int .i64 b], .agg #[.int .i64 c, .int .i64 d]] w (Ret (.bool true) w) := by
  cases h : right a b
  · exact sorts_no a b c d w (.inl h)
  · cases k : right c d
    · exact sorts_no a b c d w (.inr ⟨h, k⟩)
    · exact sorts_yes a b c d w h k
end Hlc
end Go.Proofs.Ytogooghigeemaaa
