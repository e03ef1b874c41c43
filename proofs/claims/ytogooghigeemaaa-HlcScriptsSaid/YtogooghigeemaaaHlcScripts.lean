/- The walk of HlcScripts. -/
import Derived.Test.YtogooghigeemaaaHlcRPassed
namespace Go.Proofs.Ytogooghigeemaaa
open Go.RowKit
namespace Hlc
set_option maxHeartbeats 2000000 in
theorem scripts_no (off : Int) (v : Value) (w : World) (h : isWall off = false) :
    Calls Try.prog 7 #[.int .i64 off, v] w (Ret (.bool true) w) := by
  have h1 : (!isWall off) = true := by simp [h]
  go_enter Try.func7, Try.ntmps7
  -- boxes
  go_wp2_with fail
  refine (awake_any _).mono ?_
  rintro e w1 ⟨rfl, hb⟩
  have zb1 := hb.size; (try simp at zb1)
  replace zz : w.heap.size ≤ w1.heap.size := by omega
  replace gg : Below w.heap.size w w1 := (by repeat' (first | (with_reducible exact Below.refl _ _) | (with_reducible assumption) | (with_reducible refine Below.drew ?_) | (with_reducible refine below_drewN ?_ _) | (with_reducible refine bel_alloc ?_ _) | (with_reducible refine Below.setCell ?_ ?_ _) | (with_reducible refine bel_call ?_ (by assumption)) | (simp <;> omega)))
  clear hb
  go_wp2_with fail
  refine (new_bad off _ h).mono ?_
  rintro e w2 ⟨rfl, rfl⟩
  go_wp2_with (first | (go_at_call 23; refine (rIsWall_any _ _).mono ?_; rintro e w' ⟨rfl, rfl⟩))
  go_ret
  exact ⟨rfl, gg⟩
/-- two clocks that stand alike -/
def SInv (w0 : World) (g r : Nat) (off : Int) (wr : World) : Prop :=
  ∃ la lb, Clk wr g off la lb ∧ Clk wr r off la lb ∧ Below w0.heap.size w0 wr
set_option maxRecDepth 100000 in
set_option maxHeartbeats 8000000 in
theorem scripts_yes (off : Int) (v : Value) (xs : List (Int × Int × Int × Int)) (w : World) (h : IsSteps w v xs) (ho : isWall off = true) :
    Calls Try.prog 7 #[.int .i64 off, v] w (Ret (.bool true) w) := by
  have h1 : (!isWall off) = false := by simp [ho]
  obtain ⟨ao, cap, rfl, hnc, hcap⟩ := h.form
  have HS := Lib.hid h
  have HO := Lib.hid ho
  clear h
  go_enter Try.func7, Try.ntmps7
  -- boxes
  go_wp2_with fail
  refine (awake_any _).mono ?_
  rintro e w1 ⟨rfl, hb⟩
  have zb1 := hb.size; (try simp at zb1)
  replace zz : w.heap.size ≤ w1.heap.size := by omega
  replace gg : Below w.heap.size w w1 := (by repeat' (first | (with_reducible exact Below.refl _ _) | (with_reducible assumption) | (with_reducible refine Below.drew ?_) | (with_reducible refine below_drewN ?_ _) | (with_reducible refine bel_alloc ?_ _) | (with_reducible refine Below.setCell ?_ ?_ _) | (with_reducible refine bel_call ?_ (by assumption)) | (simp <;> omega)))
  clear hb
  go_wp2_with fail
  refine (new_ok off _ HO.out).mono ?_
  rintro e w2 ⟨rfl, rfl⟩
  go_wp2_with (first | (go_at_call 23; refine (rIsWall_any _ _).mono ?_; rintro e w' ⟨rfl, rfl⟩))
  clear ho
  go_loopw [10] (fun i wr => ∃ k : Nat, k ≤ xs.length ∧ i = .int .i64 k ∧ SInv w w1.heap.size (w1.heap.size + 1) off wr) (fun i _ => xs.length - (intOf i).toNat)
  case atStart =>
    exact ⟨0, Nat.zero_le _, rfl, 0, 0, ⟨by first | omega | (simp <;> omega), by go_simp, by go_simp, by go_simp, by go_simp, by go_simp⟩, ⟨by first | omega | (simp <;> omega), by go_simp, by go_simp, by go_simp, by go_simp, by go_simp⟩, (by repeat' (first | (with_reducible exact Below.refl _ _) | (with_reducible assumption) | (with_reducible refine Below.drew ?_) | (with_reducible refine below_drewN ?_ _) | (with_reducible refine bel_alloc ?_ _) | (with_reducible refine Below.setCell ?_ ?_ _) | (with_reducible refine bel_call ?_ (by assumption)) | (simp <;> omega)))⟩
  case round =>
    obtain ⟨k, hk, rfl, la, lb, ⟨lt, c0, c1, c2, f1, f2⟩, ⟨lt', c0', c1', c2', f1', f2'⟩, gg⟩ := hrel
    have zr := gg.size
    by_cases hlt : k < xs.length
    · obtain ⟨b, o, d, t, x, y, rfl, hb, hx, ⟨bd, bt, bx, by_⟩, s0, s1, s2, s3⟩ := (HS.out.below gg).at_ hlt
      unfold I64 at bd bt bx by_
      have zw1 : w.heap.size ≤ w1.heap.size := by omega
      by_cases hd0 : d = 0
      · subst hd0
        -- boxes
        go_wp2_with fail
        refine (now_any w1.heap.size off la lb t _ ⟨by first | omega | (simp <;> omega), by go_simp, by go_simp, by go_simp, by go_simp, by go_simp⟩).mono ?_
        rintro e w2 ⟨rfl, hck, hb⟩
        replace kb0_0 : w2.cell? ⟨w1.heap.size+1, 0, none⟩ = some (.int .i64 off) := (gb_cell hb (b := w1.heap.size+1) (o := 0) (by first | omega | (simp <;> omega)) (by omega)).trans (by go_simp)
        replace kb1_1 : w2.cell? ⟨w1.heap.size+1, 1, none⟩ = some (.int .i64 la) := (gb_cell hb (b := w1.heap.size+1) (o := 1) (by first | omega | (simp <;> omega)) (by omega)).trans (by go_simp)
        replace kb1_1f : w2.frozen? ⟨w1.heap.size+1, 1, none⟩ = false := (gb_frozen hb (b := w1.heap.size+1) (o := 1) (by first | omega | (simp <;> omega)) (by omega)).trans (by go_simp)
        replace kb1_2 : w2.cell? ⟨w1.heap.size+1, 2, none⟩ = some (.int .i64 lb) := (gb_cell hb (b := w1.heap.size+1) (o := 2) (by first | omega | (simp <;> omega)) (by omega)).trans (by go_simp)
        replace kb1_2f : w2.frozen? ⟨w1.heap.size+1, 2, none⟩ = false := (gb_frozen hb (b := w1.heap.size+1) (o := 2) (by first | omega | (simp <;> omega)) (by omega)).trans (by go_simp)
        replace kb2_0 : w2.cell? ⟨wr.heap.size, 0, none⟩ = some (.int .i64 0) := (gb_cell hb (b := wr.heap.size) (o := 0) (by first | omega | (simp <;> omega)) (by omega)).trans (by go_simp)
        replace kb2_1 : w2.cell? ⟨wr.heap.size, 1, none⟩ = some (.int .i64 t) := (gb_cell hb (b := wr.heap.size) (o := 1) (by first | omega | (simp <;> omega)) (by omega)).trans (by go_simp)
        replace kb2_2 : w2.cell? ⟨wr.heap.size, 2, none⟩ = some (.int .i64 x) := (gb_cell hb (b := wr.heap.size) (o := 2) (by first | omega | (simp <;> omega)) (by omega)).trans (by go_simp)
        replace kb2_3 : w2.cell? ⟨wr.heap.size, 3, none⟩ = some (.int .i64 y) := (gb_cell hb (b := wr.heap.size) (o := 3) (by first | omega | (simp <;> omega)) (by omega)).trans (by go_simp)
        have zb2 := hb.size; (try simp at zb2)
        replace zz : w.heap.size ≤ w2.heap.size := by omega
        replace ybw1_heap_size_1 : w1.heap.size+1 < w2.heap.size := by omega
        replace ybwr_heap_size : wr.heap.size < w2.heap.size := by omega
        replace gg : Below w.heap.size w w2 := bel_grown (by repeat' (first | (with_reducible exact Below.refl _ _) | (with_reducible assumption) | (with_reducible refine Below.drew ?_) | (with_reducible refine below_drewN ?_ _) | (with_reducible refine bel_alloc ?_ _) | (with_reducible refine Below.setCell ?_ ?_ _) | (with_reducible refine bel_call ?_ (by assumption)) | (simp <;> omega))) hb (by omega)
        clear hb
        clear lt c0 c1 c2 f1 f2
        obtain ⟨lt, c0, c1, c2, f1, f2⟩ := hck
        unfold vse
        go_wp2_with fail
        -- boxes
        go_wp2_with fail
        refine (rnow_any (w1.heap.size+1) off la lb t _ ⟨by first | omega | (simp <;> omega), by go_simp, by go_simp, by go_simp, by go_simp, by go_simp⟩).mono ?_
        rintro e w3 ⟨rfl, hck, hb⟩
        replace kb2_0 : w3.cell? ⟨wr.heap.size, 0, none⟩ = some (.int .i64 0) := (gb_cell hb (b := wr.heap.size) (o := 0) (by first | omega | (simp <;> omega)) (by omega)).trans (by go_simp)
        replace kb2_1 : w3.cell? ⟨wr.heap.size, 1, none⟩ = some (.int .i64 t) := (gb_cell hb (b := wr.heap.size) (o := 1) (by first | omega | (simp <;> omega)) (by omega)).trans (by go_simp)
        replace kb2_2 : w3.cell? ⟨wr.heap.size, 2, none⟩ = some (.int .i64 x) := (gb_cell hb (b := wr.heap.size) (o := 2) (by first | omega | (simp <;> omega)) (by omega)).trans (by go_simp)
        replace kb2_3 : w3.cell? ⟨wr.heap.size, 3, none⟩ = some (.int .i64 y) := (gb_cell hb (b := wr.heap.size) (o := 3) (by first | omega | (simp <;> omega)) (by omega)).trans (by go_simp)
        replace kb3_0 : w3.cell? ⟨w1.heap.size, 0, none⟩ = some (.int .i64 off) := (gb_cell hb (b := w1.heap.size) (o := 0) (by first | omega | (simp <;> omega)) (by omega)).trans (by go_simp)
        replace kb4_1 : w3.cell? ⟨w1.heap.size, 1, none⟩ = some (.int .i64 (nowL la lb t).1) := (gb_cell hb (b := w1.heap.size) (o := 1) (by first | omega | (simp <;> omega)) (by omega)).trans (by go_simp)
        replace kb4_1f : w3.frozen? ⟨w1.heap.size, 1, none⟩ = false := (gb_frozen hb (b := w1.heap.size) (o := 1) (by first | omega | (simp <;> omega)) (by omega)).trans (by go_simp)
        replace kb4_2 : w3.cell? ⟨w1.heap.size, 2, none⟩ = some (.int .i64 (nowL la lb t).2) := (gb_cell hb (b := w1.heap.size) (o := 2) (by first | omega | (simp <;> omega)) (by omega)).trans (by go_simp)
        replace kb4_2f : w3.frozen? ⟨w1.heap.size, 2, none⟩ = false := (gb_frozen hb (b := w1.heap.size) (o := 2) (by first | omega | (simp <;> omega)) (by omega)).trans (by go_simp)
        replace kb5_0 : w3.cell? ⟨w2.heap.size, 0, none⟩ = some (.int .i64 (nowR la lb t).1) := (gb_cell hb (b := w2.heap.size) (o := 0) (by first | omega | (simp <;> omega)) (by omega)).trans (by go_simp)
        replace kb5_1 : w3.cell? ⟨w2.heap.size, 1, none⟩ = some (.int .i64 (nowR la lb t).2.1) := (gb_cell hb (b := w2.heap.size) (o := 1) (by first | omega | (simp <;> omega)) (by omega)).trans (by go_simp)
        have zb3 := hb.size; (try simp at zb3)
        replace zz : w.heap.size ≤ w3.heap.size := by omega
        replace ybw1_heap_size_1 : w1.heap.size+1 < w3.heap.size := by omega
        replace ybwr_heap_size : wr.heap.size < w3.heap.size := by omega
        replace ybw1_heap_size : w1.heap.size < w3.heap.size := by omega
        replace ybw2_heap_size : w2.heap.size < w3.heap.size := by omega
        replace gg : Below w.heap.size w w3 := bel_grown (by repeat' (first | (with_reducible exact Below.refl _ _) | (with_reducible assumption) | (with_reducible refine Below.drew ?_) | (with_reducible refine below_drewN ?_ _) | (with_reducible refine bel_alloc ?_ _) | (with_reducible refine Below.setCell ?_ ?_ _) | (with_reducible refine bel_call ?_ (by assumption)) | (simp <;> omega))) hb (by omega)
        clear hb
        clear lt' c0' c1' c2' f1' f2'
        obtain ⟨lt', c0', c1', c2', f1', f2'⟩ := hck
        unfold vse
        go_wp2_with fail
        -- boxes
        -- boxes
        go_wp2_with fail
        refine (last_any w1.heap.size off (nowL la lb t).1 (nowL la lb t).2 _ ⟨by first | omega | (simp <;> omega), by go_simp, by go_simp, by go_simp, by go_simp, by go_simp⟩).mono ?_
        rintro e w4 ⟨rfl, hb⟩
        replace kb0_0 : w4.cell? ⟨w1.heap.size, 0, none⟩ = some (.int .i64 off) := (hb.cell (p := ⟨w1.heap.size, 0, none⟩) (by simp <;> omega)).trans (by go_simp)
        replace kb1_1 : w4.cell? ⟨w1.heap.size, 1, none⟩ = some (.int .i64 (nowL la lb t).1) := (hb.cell (p := ⟨w1.heap.size, 1, none⟩) (by simp <;> omega)).trans (by go_simp)
        replace kb1_1f : w4.frozen? ⟨w1.heap.size, 1, none⟩ = false := (hb.frozen (p := ⟨w1.heap.size, 1, none⟩) (by simp <;> omega)).trans (by go_simp)
        replace kb1_2 : w4.cell? ⟨w1.heap.size, 2, none⟩ = some (.int .i64 (nowL la lb t).2) := (hb.cell (p := ⟨w1.heap.size, 2, none⟩) (by simp <;> omega)).trans (by go_simp)
        replace kb1_2f : w4.frozen? ⟨w1.heap.size, 2, none⟩ = false := (hb.frozen (p := ⟨w1.heap.size, 2, none⟩) (by simp <;> omega)).trans (by go_simp)
        replace kb2_0 : w4.cell? ⟨w1.heap.size+1, 0, none⟩ = some (.int .i64 off) := (hb.cell (p := ⟨w1.heap.size+1, 0, none⟩) (by simp <;> omega)).trans (by go_simp)
        replace kb3_1 : w4.cell? ⟨w1.heap.size+1, 1, none⟩ = some (.int .i64 (nowL la lb t).1) := (hb.cell (p := ⟨w1.heap.size+1, 1, none⟩) (by simp <;> omega)).trans (by go_simp)
        replace kb3_1f : w4.frozen? ⟨w1.heap.size+1, 1, none⟩ = false := (hb.frozen (p := ⟨w1.heap.size+1, 1, none⟩) (by simp <;> omega)).trans (by go_simp)
        replace kb3_2 : w4.cell? ⟨w1.heap.size+1, 2, none⟩ = some (.int .i64 (nowL la lb t).2) := (hb.cell (p := ⟨w1.heap.size+1, 2, none⟩) (by simp <;> omega)).trans (by go_simp)
        replace kb3_2f : w4.frozen? ⟨w1.heap.size+1, 2, none⟩ = false := (hb.frozen (p := ⟨w1.heap.size+1, 2, none⟩) (by simp <;> omega)).trans (by go_simp)
        have zb4 := hb.size; (try simp at zb4)
        replace zz : w.heap.size ≤ w4.heap.size := by omega
        replace ybw1_heap_size : w1.heap.size < w4.heap.size := by omega
        replace ybw1_heap_size_1 : w1.heap.size+1 < w4.heap.size := by omega
        replace gg : Below w.heap.size w w4 := (by repeat' (first | (with_reducible exact Below.refl _ _) | (with_reducible assumption) | (with_reducible refine Below.drew ?_) | (with_reducible refine below_drewN ?_ _) | (with_reducible refine bel_alloc ?_ _) | (with_reducible refine Below.setCell ?_ ?_ _) | (with_reducible refine bel_call ?_ (by assumption)) | (simp <;> omega)))
        clear hb
        unfold vst
        go_wp2_with fail
        go_roundw
        case rel => exact ⟨k + 1, by omega, by go_num, (nowL la lb t).1, (nowL la lb t).2, ⟨by first | omega | (simp <;> omega), by go_simp, by go_simp, by go_simp, by go_simp, by go_simp⟩, ⟨by first | omega | (simp <;> omega), by go_simp, by go_simp, by go_simp, by go_simp, by go_simp⟩, (by repeat' (first | (with_reducible exact Below.refl _ _) | (with_reducible assumption) | (with_reducible refine Below.drew ?_) | (with_reducible refine below_drewN ?_ _) | (with_reducible refine bel_alloc ?_ _) | (with_reducible refine Below.setCell ?_ ?_ _) | (with_reducible refine bel_call ?_ (by assumption)) | (simp <;> omega)))⟩
        case measure => simp [intOf]; omega
      · have hd01 : (d == 0) = false := by simp [hd0]
        clear hd0
        by_cases hd1 : d = 1
        · subst hd1
          clear hd01
          -- boxes
          go_wp2_with fail
          refine (learn_any w1.heap.size off la lb x y t _ ⟨by first | omega | (simp <;> omega), by go_simp, by go_simp, by go_simp, by go_simp, by go_simp⟩ HO.out).mono ?_
          rintro e w5 ⟨rfl, hck, hb⟩
          replace kb0_0 : w5.cell? ⟨w1.heap.size+1, 0, none⟩ = some (.int .i64 off) := (gb_cell hb (b := w1.heap.size+1) (o := 0) (by first | omega | (simp <;> omega)) (by omega)).trans (by go_simp)
          replace kb1_1 : w5.cell? ⟨w1.heap.size+1, 1, none⟩ = some (.int .i64 la) := (gb_cell hb (b := w1.heap.size+1) (o := 1) (by first | omega | (simp <;> omega)) (by omega)).trans (by go_simp)
          replace kb1_1f : w5.frozen? ⟨w1.heap.size+1, 1, none⟩ = false := (gb_frozen hb (b := w1.heap.size+1) (o := 1) (by first | omega | (simp <;> omega)) (by omega)).trans (by go_simp)
          replace kb1_2 : w5.cell? ⟨w1.heap.size+1, 2, none⟩ = some (.int .i64 lb) := (gb_cell hb (b := w1.heap.size+1) (o := 2) (by first | omega | (simp <;> omega)) (by omega)).trans (by go_simp)
          replace kb1_2f : w5.frozen? ⟨w1.heap.size+1, 2, none⟩ = false := (gb_frozen hb (b := w1.heap.size+1) (o := 2) (by first | omega | (simp <;> omega)) (by omega)).trans (by go_simp)
          replace kb2_0 : w5.cell? ⟨wr.heap.size, 0, none⟩ = some (.int .i64 1) := (gb_cell hb (b := wr.heap.size) (o := 0) (by first | omega | (simp <;> omega)) (by omega)).trans (by go_simp)
          replace kb2_1 : w5.cell? ⟨wr.heap.size, 1, none⟩ = some (.int .i64 t) := (gb_cell hb (b := wr.heap.size) (o := 1) (by first | omega | (simp <;> omega)) (by omega)).trans (by go_simp)
          replace kb2_2 : w5.cell? ⟨wr.heap.size, 2, none⟩ = some (.int .i64 x) := (gb_cell hb (b := wr.heap.size) (o := 2) (by first | omega | (simp <;> omega)) (by omega)).trans (by go_simp)
          replace kb2_3 : w5.cell? ⟨wr.heap.size, 3, none⟩ = some (.int .i64 y) := (gb_cell hb (b := wr.heap.size) (o := 3) (by first | omega | (simp <;> omega)) (by omega)).trans (by go_simp)
          have zb5 := hb.size; (try simp at zb5)
          replace zz : w.heap.size ≤ w5.heap.size := by omega
          replace ybw1_heap_size_1 : w1.heap.size+1 < w5.heap.size := by omega
          replace ybwr_heap_size : wr.heap.size < w5.heap.size := by omega
          replace gg : Below w.heap.size w w5 := bel_grown (by repeat' (first | (with_reducible exact Below.refl _ _) | (with_reducible assumption) | (with_reducible refine Below.drew ?_) | (with_reducible refine below_drewN ?_ _) | (with_reducible refine bel_alloc ?_ _) | (with_reducible refine Below.setCell ?_ ?_ _) | (with_reducible refine bel_call ?_ (by assumption)) | (simp <;> omega))) hb (by omega)
          clear hb
          clear lt c0 c1 c2 f1 f2
          obtain ⟨lt, c0, c1, c2, f1, f2⟩ := hck
          go_wp2_with fail
          -- boxes
          go_wp2_with fail
          refine (rlearn_any (w1.heap.size+1) off la lb x y t _ ⟨by first | omega | (simp <;> omega), by go_simp, by go_simp, by go_simp, by go_simp, by go_simp⟩ HO.out).mono ?_
          rintro e w6 ⟨rfl, hck, hb⟩
          replace kb2_0 : w6.cell? ⟨wr.heap.size, 0, none⟩ = some (.int .i64 1) := (gb_cell hb (b := wr.heap.size) (o := 0) (by first | omega | (simp <;> omega)) (by omega)).trans (by go_simp)
          replace kb2_1 : w6.cell? ⟨wr.heap.size, 1, none⟩ = some (.int .i64 t) := (gb_cell hb (b := wr.heap.size) (o := 1) (by first | omega | (simp <;> omega)) (by omega)).trans (by go_simp)
          replace kb2_2 : w6.cell? ⟨wr.heap.size, 2, none⟩ = some (.int .i64 x) := (gb_cell hb (b := wr.heap.size) (o := 2) (by first | omega | (simp <;> omega)) (by omega)).trans (by go_simp)
          replace kb2_3 : w6.cell? ⟨wr.heap.size, 3, none⟩ = some (.int .i64 y) := (gb_cell hb (b := wr.heap.size) (o := 3) (by first | omega | (simp <;> omega)) (by omega)).trans (by go_simp)
          replace kb3_0 : w6.cell? ⟨w1.heap.size, 0, none⟩ = some (.int .i64 off) := (gb_cell hb (b := w1.heap.size) (o := 0) (by first | omega | (simp <;> omega)) (by omega)).trans (by go_simp)
          replace kb4_1 : w6.cell? ⟨w1.heap.size, 1, none⟩ = some (.int .i64 (learnL off la lb x y t).1) := (gb_cell hb (b := w1.heap.size) (o := 1) (by first | omega | (simp <;> omega)) (by omega)).trans (by go_simp)
          replace kb4_1f : w6.frozen? ⟨w1.heap.size, 1, none⟩ = false := (gb_frozen hb (b := w1.heap.size) (o := 1) (by first | omega | (simp <;> omega)) (by omega)).trans (by go_simp)
          replace kb4_2 : w6.cell? ⟨w1.heap.size, 2, none⟩ = some (.int .i64 (learnL off la lb x y t).2) := (gb_cell hb (b := w1.heap.size) (o := 2) (by first | omega | (simp <;> omega)) (by omega)).trans (by go_simp)
          replace kb4_2f : w6.frozen? ⟨w1.heap.size, 2, none⟩ = false := (gb_frozen hb (b := w1.heap.size) (o := 2) (by first | omega | (simp <;> omega)) (by omega)).trans (by go_simp)
          have zb6 := hb.size; (try simp at zb6)
          replace zz : w.heap.size ≤ w6.heap.size := by omega
          replace ybw1_heap_size_1 : w1.heap.size+1 < w6.heap.size := by omega
          replace ybwr_heap_size : wr.heap.size < w6.heap.size := by omega
          replace ybw1_heap_size : w1.heap.size < w6.heap.size := by omega
          replace gg : Below w.heap.size w w6 := bel_grown (by repeat' (first | (with_reducible exact Below.refl _ _) | (with_reducible assumption) | (with_reducible refine Below.drew ?_) | (with_reducible refine below_drewN ?_ _) | (with_reducible refine bel_alloc ?_ _) | (with_reducible refine Below.setCell ?_ ?_ _) | (with_reducible refine bel_call ?_ (by assumption)) | (simp <;> omega))) hb (by omega)
          clear hb
          clear lt' c0' c1' c2' f1' f2'
          obtain ⟨lt', c0', c1', c2', f1', f2'⟩ := hck
          go_wp2_with fail
          -- boxes
          -- boxes
          go_wp2_with fail
          refine (last_any w1.heap.size off (learnL off la lb x y t).1 (learnL off la lb x y t).2 _ ⟨by first | omega | (simp <;> omega), by go_simp, by go_simp, by go_simp, by go_simp, by go_simp⟩).mono ?_
          rintro e w7 ⟨rfl, hb⟩
          replace kb0_0 : w7.cell? ⟨w1.heap.size, 0, none⟩ = some (.int .i64 off) := (hb.cell (p := ⟨w1.heap.size, 0, none⟩) (by simp <;> omega)).trans (by go_simp)
          replace kb1_1 : w7.cell? ⟨w1.heap.size, 1, none⟩ = some (.int .i64 (learnL off la lb x y t).1) := (hb.cell (p := ⟨w1.heap.size, 1, none⟩) (by simp <;> omega)).trans (by go_simp)
          replace kb1_1f : w7.frozen? ⟨w1.heap.size, 1, none⟩ = false := (hb.frozen (p := ⟨w1.heap.size, 1, none⟩) (by simp <;> omega)).trans (by go_simp)
          replace kb1_2 : w7.cell? ⟨w1.heap.size, 2, none⟩ = some (.int .i64 (learnL off la lb x y t).2) := (hb.cell (p := ⟨w1.heap.size, 2, none⟩) (by simp <;> omega)).trans (by go_simp)
          replace kb1_2f : w7.frozen? ⟨w1.heap.size, 2, none⟩ = false := (hb.frozen (p := ⟨w1.heap.size, 2, none⟩) (by simp <;> omega)).trans (by go_simp)
          replace kb2_0 : w7.cell? ⟨w1.heap.size+1, 0, none⟩ = some (.int .i64 off) := (hb.cell (p := ⟨w1.heap.size+1, 0, none⟩) (by simp <;> omega)).trans (by go_simp)
          replace kb3_1 : w7.cell? ⟨w1.heap.size+1, 1, none⟩ = some (.int .i64 (learnL off la lb x y t).1) := (hb.cell (p := ⟨w1.heap.size+1, 1, none⟩) (by simp <;> omega)).trans (by go_simp)
          replace kb3_1f : w7.frozen? ⟨w1.heap.size+1, 1, none⟩ = false := (hb.frozen (p := ⟨w1.heap.size+1, 1, none⟩) (by simp <;> omega)).trans (by go_simp)
          replace kb3_2 : w7.cell? ⟨w1.heap.size+1, 2, none⟩ = some (.int .i64 (learnL off la lb x y t).2) := (hb.cell (p := ⟨w1.heap.size+1, 2, none⟩) (by simp <;> omega)).trans (by go_simp)
          replace kb3_2f : w7.frozen? ⟨w1.heap.size+1, 2, none⟩ = false := (hb.frozen (p := ⟨w1.heap.size+1, 2, none⟩) (by simp <;> omega)).trans (by go_simp)
          have zb7 := hb.size; (try simp at zb7)
          replace zz : w.heap.size ≤ w7.heap.size := by omega
          replace ybw1_heap_size : w1.heap.size < w7.heap.size := by omega
          replace ybw1_heap_size_1 : w1.heap.size+1 < w7.heap.size := by omega
          replace gg : Below w.heap.size w w7 := (by repeat' (first | (with_reducible exact Below.refl _ _) | (with_reducible assumption) | (with_reducible refine Below.drew ?_) | (with_reducible refine below_drewN ?_ _) | (with_reducible refine bel_alloc ?_ _) | (with_reducible refine Below.setCell ?_ ?_ _) | (with_reducible refine bel_call ?_ (by assumption)) | (simp <;> omega)))
          clear hb
          unfold vst
          go_wp2_with fail
          go_roundw
          case rel => exact ⟨k + 1, by omega, by go_num, (learnL off la lb x y t).1, (learnL off la lb x y t).2, ⟨by first | omega | (simp <;> omega), by go_simp, by go_simp, by go_simp, by go_simp, by go_simp⟩, ⟨by first | omega | (simp <;> omega), by go_simp, by go_simp, by go_simp, by go_simp, by go_simp⟩, (by repeat' (first | (with_reducible exact Below.refl _ _) | (with_reducible assumption) | (with_reducible refine Below.drew ?_) | (with_reducible refine below_drewN ?_ _) | (with_reducible refine bel_alloc ?_ _) | (with_reducible refine Below.setCell ?_ ?_ _) | (with_reducible refine bel_call ?_ (by assumption)) | (simp <;> omega)))⟩
          case measure => simp [intOf]; omega
        · have hd11 : (d == 1) = false := by simp [hd1]
          clear hd1
          by_cases hd2 : d = 2
          · subst hd2
            clear hd01 hd11
            -- boxes
            go_wp2_with fail
            refine (passed_any w1.heap.size off la lb x y t _ ⟨by first | omega | (simp <;> omega), by go_simp, by go_simp, by go_simp, by go_simp, by go_simp⟩ HO.out).mono ?_
            rintro e w8 ⟨rfl, hb⟩
            replace kb0_0 : w8.cell? ⟨w1.heap.size, 0, none⟩ = some (.int .i64 off) := (hb.cell (p := ⟨w1.heap.size, 0, none⟩) (by simp <;> omega)).trans (by go_simp)
            replace kb1_1 : w8.cell? ⟨w1.heap.size, 1, none⟩ = some (.int .i64 la) := (hb.cell (p := ⟨w1.heap.size, 1, none⟩) (by simp <;> omega)).trans (by go_simp)
            replace kb1_1f : w8.frozen? ⟨w1.heap.size, 1, none⟩ = false := (hb.frozen (p := ⟨w1.heap.size, 1, none⟩) (by simp <;> omega)).trans (by go_simp)
            replace kb1_2 : w8.cell? ⟨w1.heap.size, 2, none⟩ = some (.int .i64 lb) := (hb.cell (p := ⟨w1.heap.size, 2, none⟩) (by simp <;> omega)).trans (by go_simp)
            replace kb1_2f : w8.frozen? ⟨w1.heap.size, 2, none⟩ = false := (hb.frozen (p := ⟨w1.heap.size, 2, none⟩) (by simp <;> omega)).trans (by go_simp)
            replace kb2_0 : w8.cell? ⟨w1.heap.size+1, 0, none⟩ = some (.int .i64 off) := (hb.cell (p := ⟨w1.heap.size+1, 0, none⟩) (by simp <;> omega)).trans (by go_simp)
            replace kb3_1 : w8.cell? ⟨w1.heap.size+1, 1, none⟩ = some (.int .i64 la) := (hb.cell (p := ⟨w1.heap.size+1, 1, none⟩) (by simp <;> omega)).trans (by go_simp)
            replace kb3_1f : w8.frozen? ⟨w1.heap.size+1, 1, none⟩ = false := (hb.frozen (p := ⟨w1.heap.size+1, 1, none⟩) (by simp <;> omega)).trans (by go_simp)
            replace kb3_2 : w8.cell? ⟨w1.heap.size+1, 2, none⟩ = some (.int .i64 lb) := (hb.cell (p := ⟨w1.heap.size+1, 2, none⟩) (by simp <;> omega)).trans (by go_simp)
            replace kb3_2f : w8.frozen? ⟨w1.heap.size+1, 2, none⟩ = false := (hb.frozen (p := ⟨w1.heap.size+1, 2, none⟩) (by simp <;> omega)).trans (by go_simp)
            replace kb4_0 : w8.cell? ⟨wr.heap.size, 0, none⟩ = some (.int .i64 2) := (hb.cell (p := ⟨wr.heap.size, 0, none⟩) (by simp <;> omega)).trans (by go_simp)
            replace kb4_1 : w8.cell? ⟨wr.heap.size, 1, none⟩ = some (.int .i64 t) := (hb.cell (p := ⟨wr.heap.size, 1, none⟩) (by simp <;> omega)).trans (by go_simp)
            replace kb4_2 : w8.cell? ⟨wr.heap.size, 2, none⟩ = some (.int .i64 x) := (hb.cell (p := ⟨wr.heap.size, 2, none⟩) (by simp <;> omega)).trans (by go_simp)
            replace kb4_3 : w8.cell? ⟨wr.heap.size, 3, none⟩ = some (.int .i64 y) := (hb.cell (p := ⟨wr.heap.size, 3, none⟩) (by simp <;> omega)).trans (by go_simp)
            have zb8 := hb.size; (try simp at zb8)
            replace zz : w.heap.size ≤ w8.heap.size := by omega
            replace ybw1_heap_size : w1.heap.size < w8.heap.size := by omega
            replace ybw1_heap_size_1 : w1.heap.size+1 < w8.heap.size := by omega
            replace ybwr_heap_size : wr.heap.size < w8.heap.size := by omega
            replace gg : Below w.heap.size w w8 := (by repeat' (first | (with_reducible exact Below.refl _ _) | (with_reducible assumption) | (with_reducible refine Below.drew ?_) | (with_reducible refine below_drewN ?_ _) | (with_reducible refine bel_alloc ?_ _) | (with_reducible refine Below.setCell ?_ ?_ _) | (with_reducible refine bel_call ?_ (by assumption)) | (simp <;> omega)))
            clear hb
            go_wp2_with fail
            refine (rpassed_any (w1.heap.size+1) off la lb x y t _ ⟨by first | omega | (simp <;> omega), by go_simp, by go_simp, by go_simp, by go_simp, by go_simp⟩ HO.out).mono ?_
            rintro e w9 ⟨rfl, hb⟩
            replace kb0_0 : w9.cell? ⟨w1.heap.size, 0, none⟩ = some (.int .i64 off) := (hb.cell (p := ⟨w1.heap.size, 0, none⟩) (by simp <;> omega)).trans (by go_simp)
            replace kb1_1 : w9.cell? ⟨w1.heap.size, 1, none⟩ = some (.int .i64 la) := (hb.cell (p := ⟨w1.heap.size, 1, none⟩) (by simp <;> omega)).trans (by go_simp)
            replace kb1_1f : w9.frozen? ⟨w1.heap.size, 1, none⟩ = false := (hb.frozen (p := ⟨w1.heap.size, 1, none⟩) (by simp <;> omega)).trans (by go_simp)
            replace kb1_2 : w9.cell? ⟨w1.heap.size, 2, none⟩ = some (.int .i64 lb) := (hb.cell (p := ⟨w1.heap.size, 2, none⟩) (by simp <;> omega)).trans (by go_simp)
            replace kb1_2f : w9.frozen? ⟨w1.heap.size, 2, none⟩ = false := (hb.frozen (p := ⟨w1.heap.size, 2, none⟩) (by simp <;> omega)).trans (by go_simp)
            replace kb2_0 : w9.cell? ⟨w1.heap.size+1, 0, none⟩ = some (.int .i64 off) := (hb.cell (p := ⟨w1.heap.size+1, 0, none⟩) (by simp <;> omega)).trans (by go_simp)
            replace kb3_1 : w9.cell? ⟨w1.heap.size+1, 1, none⟩ = some (.int .i64 la) := (hb.cell (p := ⟨w1.heap.size+1, 1, none⟩) (by simp <;> omega)).trans (by go_simp)
            replace kb3_1f : w9.frozen? ⟨w1.heap.size+1, 1, none⟩ = false := (hb.frozen (p := ⟨w1.heap.size+1, 1, none⟩) (by simp <;> omega)).trans (by go_simp)
            replace kb3_2 : w9.cell? ⟨w1.heap.size+1, 2, none⟩ = some (.int .i64 lb) := (hb.cell (p := ⟨w1.heap.size+1, 2, none⟩) (by simp <;> omega)).trans (by go_simp)
            replace kb3_2f : w9.frozen? ⟨w1.heap.size+1, 2, none⟩ = false := (hb.frozen (p := ⟨w1.heap.size+1, 2, none⟩) (by simp <;> omega)).trans (by go_simp)
            replace kb4_0 : w9.cell? ⟨wr.heap.size, 0, none⟩ = some (.int .i64 2) := (hb.cell (p := ⟨wr.heap.size, 0, none⟩) (by simp <;> omega)).trans (by go_simp)
            replace kb4_1 : w9.cell? ⟨wr.heap.size, 1, none⟩ = some (.int .i64 t) := (hb.cell (p := ⟨wr.heap.size, 1, none⟩) (by simp <;> omega)).trans (by go_simp)
            replace kb4_2 : w9.cell? ⟨wr.heap.size, 2, none⟩ = some (.int .i64 x) := (hb.cell (p := ⟨wr.heap.size, 2, none⟩) (by simp <;> omega)).trans (by go_simp)
            replace kb4_3 : w9.cell? ⟨wr.heap.size, 3, none⟩ = some (.int .i64 y) := (hb.cell (p := ⟨wr.heap.size, 3, none⟩) (by simp <;> omega)).trans (by go_simp)
            have zb9 := hb.size; (try simp at zb9)
            replace zz : w.heap.size ≤ w9.heap.size := by omega
            replace ybw1_heap_size : w1.heap.size < w9.heap.size := by omega
            replace ybw1_heap_size_1 : w1.heap.size+1 < w9.heap.size := by omega
            replace ybwr_heap_size : wr.heap.size < w9.heap.size := by omega
            replace gg : Below w.heap.size w w9 := (by repeat' (first | (with_reducible exact Below.refl _ _) | (with_reducible assumption) | (with_reducible refine Below.drew ?_) | (with_reducible refine below_drewN ?_ _) | (with_reducible refine bel_alloc ?_ _) | (with_reducible refine Below.setCell ?_ ?_ _) | (with_reducible refine bel_call ?_ (by assumption)) | (simp <;> omega)))
            clear hb
            -- boxes
            go_wp2_with fail
            -- boxes
            go_wp2_with fail
            refine (last_any w1.heap.size off la lb _ ⟨by first | omega | (simp <;> omega), by go_simp, by go_simp, by go_simp, by go_simp, by go_simp⟩).mono ?_
            rintro e w10 ⟨rfl, hb⟩
            replace kb0_0 : w10.cell? ⟨w1.heap.size, 0, none⟩ = some (.int .i64 off) := (hb.cell (p := ⟨w1.heap.size, 0, none⟩) (by simp <;> omega)).trans (by go_simp)
            replace kb1_1 : w10.cell? ⟨w1.heap.size, 1, none⟩ = some (.int .i64 la) := (hb.cell (p := ⟨w1.heap.size, 1, none⟩) (by simp <;> omega)).trans (by go_simp)
            replace kb1_1f : w10.frozen? ⟨w1.heap.size, 1, none⟩ = false := (hb.frozen (p := ⟨w1.heap.size, 1, none⟩) (by simp <;> omega)).trans (by go_simp)
            replace kb1_2 : w10.cell? ⟨w1.heap.size, 2, none⟩ = some (.int .i64 lb) := (hb.cell (p := ⟨w1.heap.size, 2, none⟩) (by simp <;> omega)).trans (by go_simp)
            replace kb1_2f : w10.frozen? ⟨w1.heap.size, 2, none⟩ = false := (hb.frozen (p := ⟨w1.heap.size, 2, none⟩) (by simp <;> omega)).trans (by go_simp)
            replace kb2_0 : w10.cell? ⟨w1.heap.size+1, 0, none⟩ = some (.int .i64 off) := (hb.cell (p := ⟨w1.heap.size+1, 0, none⟩) (by simp <;> omega)).trans (by go_simp)
            replace kb3_1 : w10.cell? ⟨w1.heap.size+1, 1, none⟩ = some (.int .i64 la) := (hb.cell (p := ⟨w1.heap.size+1, 1, none⟩) (by simp <;> omega)).trans (by go_simp)
            replace kb3_1f : w10.frozen? ⟨w1.heap.size+1, 1, none⟩ = false := (hb.frozen (p := ⟨w1.heap.size+1, 1, none⟩) (by simp <;> omega)).trans (by go_simp)
            replace kb3_2 : w10.cell? ⟨w1.heap.size+1, 2, none⟩ = some (.int .i64 lb) := (hb.cell (p := ⟨w1.heap.size+1, 2, none⟩) (by simp <;> omega)).trans (by go_simp)
            replace kb3_2f : w10.frozen? ⟨w1.heap.size+1, 2, none⟩ = false := (hb.frozen (p := ⟨w1.heap.size+1, 2, none⟩) (by simp <;> omega)).trans (by go_simp)
            have zb10 := hb.size; (try simp at zb10)
            replace zz : w.heap.size ≤ w10.heap.size := by omega
            replace ybw1_heap_size : w1.heap.size < w10.heap.size := by omega
            replace ybw1_heap_size_1 : w1.heap.size+1 < w10.heap.size := by omega
            replace gg : Below w.heap.size w w10 := (by repeat' (first | (with_reducible exact Below.refl _ _) | (with_reducible assumption) | (with_reducible refine Below.drew ?_) | (with_reducible refine below_drewN ?_ _) | (with_reducible refine bel_alloc ?_ _) | (with_reducible refine Below.setCell ?_ ?_ _) | (with_reducible refine bel_call ?_ (by assumption)) | (simp <;> omega)))
            clear hb
            unfold vst
            go_wp2_with fail
            go_roundw
            case rel => exact ⟨k + 1, by omega, by go_num, la, lb, ⟨by first | omega | (simp <;> omega), by go_simp, by go_simp, by go_simp, by go_simp, by go_simp⟩, ⟨by first | omega | (simp <;> omega), by go_simp, by go_simp, by go_simp, by go_simp, by go_simp⟩, (by repeat' (first | (with_reducible exact Below.refl _ _) | (with_reducible assumption) | (with_reducible refine Below.drew ?_) | (with_reducible refine below_drewN ?_ _) | (with_reducible refine bel_alloc ?_ _) | (with_reducible refine Below.setCell ?_ ?_ _) | (with_reducible refine bel_call ?_ (by assumption)) | (simp <;> omega)))⟩
            case measure => simp [intOf]; omega
          · have hd21 : (d == 2) = false := by simp [hd2]
            clear hd2
            go_wp2_with fail
            -- boxes
            go_wp2_with fail
            refine (last_any w1.heap.size off la lb _ ⟨by first | omega | (simp <;> omega), by go_simp, by go_simp, by go_simp, by go_simp, by go_simp⟩).mono ?_
            rintro e w11 ⟨rfl, hb⟩
            replace kb0_0 : w11.cell? ⟨w1.heap.size, 0, none⟩ = some (.int .i64 off) := (hb.cell (p := ⟨w1.heap.size, 0, none⟩) (by simp <;> omega)).trans (by go_simp)
            replace kb1_1 : w11.cell? ⟨w1.heap.size, 1, none⟩ = some (.int .i64 la) := (hb.cell (p := ⟨w1.heap.size, 1, none⟩) (by simp <;> omega)).trans (by go_simp)
            replace kb1_1f : w11.frozen? ⟨w1.heap.size, 1, none⟩ = false := (hb.frozen (p := ⟨w1.heap.size, 1, none⟩) (by simp <;> omega)).trans (by go_simp)
            replace kb1_2 : w11.cell? ⟨w1.heap.size, 2, none⟩ = some (.int .i64 lb) := (hb.cell (p := ⟨w1.heap.size, 2, none⟩) (by simp <;> omega)).trans (by go_simp)
            replace kb1_2f : w11.frozen? ⟨w1.heap.size, 2, none⟩ = false := (hb.frozen (p := ⟨w1.heap.size, 2, none⟩) (by simp <;> omega)).trans (by go_simp)
            replace kb2_0 : w11.cell? ⟨w1.heap.size+1, 0, none⟩ = some (.int .i64 off) := (hb.cell (p := ⟨w1.heap.size+1, 0, none⟩) (by simp <;> omega)).trans (by go_simp)
            replace kb3_1 : w11.cell? ⟨w1.heap.size+1, 1, none⟩ = some (.int .i64 la) := (hb.cell (p := ⟨w1.heap.size+1, 1, none⟩) (by simp <;> omega)).trans (by go_simp)
            replace kb3_1f : w11.frozen? ⟨w1.heap.size+1, 1, none⟩ = false := (hb.frozen (p := ⟨w1.heap.size+1, 1, none⟩) (by simp <;> omega)).trans (by go_simp)
            replace kb3_2 : w11.cell? ⟨w1.heap.size+1, 2, none⟩ = some (.int .i64 lb) := (hb.cell (p := ⟨w1.heap.size+1, 2, none⟩) (by simp <;> omega)).trans (by go_simp)
            replace kb3_2f : w11.frozen? ⟨w1.heap.size+1, 2, none⟩ = false := (hb.frozen (p := ⟨w1.heap.size+1, 2, none⟩) (by simp <;> omega)).trans (by go_simp)
            have zb11 := hb.size; (try simp at zb11)
            replace zz : w.heap.size ≤ w11.heap.size := by omega
            replace ybw1_heap_size : w1.heap.size < w11.heap.size := by omega
            replace ybw1_heap_size_1 : w1.heap.size+1 < w11.heap.size := by omega
            replace gg : Below w.heap.size w w11 := (by repeat' (first | (with_reducible exact Below.refl _ _) | (with_reducible assumption) | (with_reducible refine Below.drew ?_) | (with_reducible refine below_drewN ?_ _) | (with_reducible refine bel_alloc ?_ _) | (with_reducible refine Below.setCell ?_ ?_ _) | (with_reducible refine bel_call ?_ (by assumption)) | (simp <;> omega)))
            clear hb
            unfold vst
            go_wp2_with fail
            go_roundw
            case rel => exact ⟨k + 1, by omega, by go_num, la, lb, ⟨by first | omega | (simp <;> omega), by go_simp, by go_simp, by go_simp, by go_simp, by go_simp⟩, ⟨by first | omega | (simp <;> omega), by go_simp, by go_simp, by go_simp, by go_simp, by go_simp⟩, (by repeat' (first | (with_reducible exact Below.refl _ _) | (with_reducible assumption) | (with_reducible refine Below.drew ?_) | (with_reducible refine below_drewN ?_ _) | (with_reducible refine bel_alloc ?_ _) | (with_reducible refine Below.setCell ?_ ?_ _) | (with_reducible refine bel_call ?_ (by assumption)) | (simp <;> omega)))⟩
            case measure => simp [intOf]; omega
    · have hkp : k = xs.length := by omega
      subst hkp
      go_wp2_with fail
      go_ret
      exact ⟨rfl, gg⟩
theorem scripts_walk (off : Int) (v : Value) (xs : List (Int × Int × Int × Int)) (w : World) (h : IsSteps w v xs) :
    Calls Try.prog 7 #[.int .i64 off, v] w (Ret (.bool true) w) := by
  cases ho : isWall off
  · exact scripts_no off v w ho
  · exact scripts_yes off v xs w h ho
end Hlc
end Go.Proofs.Ytogooghigeemaaa
