/- The walk of HlcRises. -/
import Derived.Test.YtogooghigeemaaaHlcStepsOpen
namespace Go.Proofs.Ytogooghigeemaaa
open Go.RowKit
namespace Hlc
set_option maxHeartbeats 2000000 in
theorem rises_no (off : Int) (v : Value) (w : World) (h : isWall off = false) :
    Calls Try.prog 6 #[.int .i64 off, v] w (Ret (.bool true) w) := by
  have h1 : (!isWall off) = true := by simp [h]
  go_enter Try.func6, Try.ntmps6
  -- boxes
  go_wp2_with fail
  refine (awake_any _).mono ?_
  rintro e w1 ⟨rfl, hb⟩
  have zb1 := hb.size; (try simp at zb1)
  replace zz : w.heap.size ≤ w1.heap.size := by omega
  replace gg : Below w.heap.size w w1 := (by repeat' (first | (with_reducible exact Below.refl _ _) | (with_reducible assumption) | (with_reducible refine Below.drew ?_) | (with_reducible refine below_drewN ?_ _) | (with_reducible refine bel_alloc ?_ _) | (with_reducible refine Below.setCell ?_ ?_ _) | (with_reducible refine bel_call ?_ (by assumption)) | (simp <;> omega)))
  clear hb
  go_wp2_with fail
  refine (new_bad off _ h).mono ?_
  rintro e w2 ⟨rfl, rfl⟩
  go_wp2_with (first | (go_at_call 23; refine (rIsWall_any _ _).mono ?_; rintro e w' ⟨rfl, rfl⟩))
  go_ret
  exact ⟨rfl, gg⟩
/-- a clock and the greatest stamp told or learned -/
def RInv (w0 : World) (g T : Nat) (off : Int) (wr : World) : Prop :=
  ∃ la lb ta tb, Clk wr g off la lb ∧ (wr.cell? ⟨T, 0, none⟩ = some (.int .i64 ta) ∧ wr.cell? ⟨T, 1, none⟩ = some (.int .i64 tb)) ∧ (wr.frozen? ⟨T, 0, none⟩ = false ∧ wr.frozen? ⟨T, 1, none⟩ = false) ∧
    right la lb = true ∧ cmpS ta tb la lb ≤ 0 ∧ Below w0.heap.size w0 wr ∧ T < wr.heap.size
set_option maxRecDepth 100000 in
set_option maxHeartbeats 4000000 in
theorem rises_yes (off : Int) (v : Value) (xs : List (Int × Int × Int × Int)) (w : World) (h : IsSteps w v xs) (ho : isWall off = true) :
    Calls Try.prog 6 #[.int .i64 off, v] w (Ret (.bool true) w) := by
  have h1 : (!isWall off) = false := by simp [ho]
  obtain ⟨ao, cap, rfl, hnc, hcap⟩ := h.form
  have HS := Lib.hid h
  have HO := Lib.hid ho
  clear h ho
  go_enter Try.func6, Try.ntmps6
  -- boxes
  go_wp2_with fail
  refine (awake_any _).mono ?_
  rintro e w1 ⟨rfl, hb⟩
  have zb1 := hb.size; (try simp at zb1)
  replace zz : w.heap.size ≤ w1.heap.size := by omega
  replace gg : Below w.heap.size w w1 := (by repeat' (first | (with_reducible exact Below.refl _ _) | (with_reducible assumption) | (with_reducible refine Below.drew ?_) | (with_reducible refine below_drewN ?_ _) | (with_reducible refine bel_alloc ?_ _) | (with_reducible refine Below.setCell ?_ ?_ _) | (with_reducible refine bel_call ?_ (by assumption)) | (simp <;> omega)))
  clear hb
  go_wp2_with fail
  refine (new_ok off _ HO.out).mono ?_
  rintro e w2 ⟨rfl, rfl⟩
  go_wp2_with (first | (go_at_call 23; refine (rIsWall_any _ _).mono ?_; rintro e w' ⟨rfl, rfl⟩))
  go_loopw [10] (fun i wr => ∃ k : Nat, k ≤ xs.length ∧ i = .int .i64 k ∧ RInv w w1.heap.size (w1.heap.size + 1) off wr) (fun i _ => xs.length - (intOf i).toNat)
  case atStart =>
    refine ⟨0, Nat.zero_le _, rfl, 0, 0, 0, 0, ⟨by first | omega | (simp <;> omega), by go_simp, by go_simp, by go_simp, by go_simp, by go_simp⟩, ⟨by go_simp, by go_simp⟩, ⟨by go_simp, by go_simp⟩, by decide, by decide, (by repeat' (first | (with_reducible exact Below.refl _ _) | (with_reducible assumption) | (with_reducible refine Below.drew ?_) | (with_reducible refine below_drewN ?_ _) | (with_reducible refine bel_alloc ?_ _) | (with_reducible refine Below.setCell ?_ ?_ _) | (with_reducible refine bel_call ?_ (by assumption)) | (simp <;> omega))), by simp⟩
  case round =>
    obtain ⟨k, hk, rfl, la, lb, ta, tb, ⟨lt, c0, c1, c2, f1, f2⟩, ⟨t0, t1⟩, ⟨u0, u1⟩, hr, hle, gg, zT⟩ := hrel
    have HR := Lib.hid hr
    have HL := Lib.hid hle
    clear hr hle
    have zr := gg.size
    by_cases hlt : k < xs.length
    · obtain ⟨b, o, d, t, x, y, rfl, hb, hx, ⟨bd, bt, bx, by_⟩, s0, s1, s2, s3⟩ := (HS.out.below gg).at_ hlt
      unfold I64 at bd bt bx by_
      have zw1 : w.heap.size ≤ w1.heap.size := by omega
      by_cases hd : d = 1
      · have hd1 : (d == 1) = true := by simp [hd]
        clear hd
        -- boxes
        go_wp2_with fail
        refine (learn_any w1.heap.size off la lb x y t _ ⟨by first | omega | (simp <;> omega), by go_simp, by go_simp, by go_simp, by go_simp, by go_simp⟩ HO.out).mono ?_
        rintro e w2 ⟨rfl, hck, hb⟩
        replace kb0_0 : w2.cell? ⟨w1.heap.size+1, 0, none⟩ = some (.int .i64 ta) := (gb_cell hb (b := w1.heap.size+1) (o := 0) (by first | omega | (simp <;> omega)) (by omega)).trans (by go_simp)
        replace kb0_0f : w2.frozen? ⟨w1.heap.size+1, 0, none⟩ = false := (gb_frozen hb (b := w1.heap.size+1) (o := 0) (by first | omega | (simp <;> omega)) (by omega)).trans (by go_simp)
        replace kb0_1 : w2.cell? ⟨w1.heap.size+1, 1, none⟩ = some (.int .i64 tb) := (gb_cell hb (b := w1.heap.size+1) (o := 1) (by first | omega | (simp <;> omega)) (by omega)).trans (by go_simp)
        replace kb0_1f : w2.frozen? ⟨w1.heap.size+1, 1, none⟩ = false := (gb_frozen hb (b := w1.heap.size+1) (o := 1) (by first | omega | (simp <;> omega)) (by omega)).trans (by go_simp)
        replace kb1_0 : w2.cell? ⟨wr.heap.size, 0, none⟩ = some (.int .i64 d) := (gb_cell hb (b := wr.heap.size) (o := 0) (by first | omega | (simp <;> omega)) (by omega)).trans (by go_simp)
        replace kb1_1 : w2.cell? ⟨wr.heap.size, 1, none⟩ = some (.int .i64 t) := (gb_cell hb (b := wr.heap.size) (o := 1) (by first | omega | (simp <;> omega)) (by omega)).trans (by go_simp)
        replace kb1_2 : w2.cell? ⟨wr.heap.size, 2, none⟩ = some (.int .i64 x) := (gb_cell hb (b := wr.heap.size) (o := 2) (by first | omega | (simp <;> omega)) (by omega)).trans (by go_simp)
        replace kb1_3 : w2.cell? ⟨wr.heap.size, 3, none⟩ = some (.int .i64 y) := (gb_cell hb (b := wr.heap.size) (o := 3) (by first | omega | (simp <;> omega)) (by omega)).trans (by go_simp)
        have zb2 := hb.size; (try simp at zb2)
        replace zz : w.heap.size ≤ w2.heap.size := by omega
        replace ybw1_heap_size_1 : w1.heap.size+1 < w2.heap.size := by omega
        replace ybwr_heap_size : wr.heap.size < w2.heap.size := by omega
        replace gg : Below w.heap.size w w2 := bel_grown (by repeat' (first | (with_reducible exact Below.refl _ _) | (with_reducible assumption) | (with_reducible refine Below.drew ?_) | (with_reducible refine below_drewN ?_ _) | (with_reducible refine bel_alloc ?_ _) | (with_reducible refine Below.setCell ?_ ?_ _) | (with_reducible refine bel_call ?_ (by assumption)) | (simp <;> omega))) hb (by omega)
        clear hb
        have law := learn_law (off := off) (a := x) (b := y) (t := t) HR.out HL.out
        generalize learnL off la lb x y t = L at hck law
        have LAW := Lib.hid law
        clear law
        clear c0 c1 c2 f1 f2
        obtain ⟨lt, c0, c1, c2, f1, f2⟩ := hck
        -- boxes
        go_wp2_with fail
        refine (rCompare_any x y ta tb _).mono ?_
        rintro e w3 ⟨rfl, hb⟩
        replace kb0_0 : w3.cell? ⟨w1.heap.size+1, 0, none⟩ = some (.int .i64 ta) := (hb.cell (p := ⟨w1.heap.size+1, 0, none⟩) (by simp <;> omega)).trans (by go_simp)
        replace kb0_0f : w3.frozen? ⟨w1.heap.size+1, 0, none⟩ = false := (hb.frozen (p := ⟨w1.heap.size+1, 0, none⟩) (by simp <;> omega)).trans (by go_simp)
        replace kb0_1 : w3.cell? ⟨w1.heap.size+1, 1, none⟩ = some (.int .i64 tb) := (hb.cell (p := ⟨w1.heap.size+1, 1, none⟩) (by simp <;> omega)).trans (by go_simp)
        replace kb0_1f : w3.frozen? ⟨w1.heap.size+1, 1, none⟩ = false := (hb.frozen (p := ⟨w1.heap.size+1, 1, none⟩) (by simp <;> omega)).trans (by go_simp)
        replace kb1_0 : w3.cell? ⟨wr.heap.size, 0, none⟩ = some (.int .i64 d) := (hb.cell (p := ⟨wr.heap.size, 0, none⟩) (by simp <;> omega)).trans (by go_simp)
        replace kb1_1 : w3.cell? ⟨wr.heap.size, 1, none⟩ = some (.int .i64 t) := (hb.cell (p := ⟨wr.heap.size, 1, none⟩) (by simp <;> omega)).trans (by go_simp)
        replace kb1_2 : w3.cell? ⟨wr.heap.size, 2, none⟩ = some (.int .i64 x) := (hb.cell (p := ⟨wr.heap.size, 2, none⟩) (by simp <;> omega)).trans (by go_simp)
        replace kb1_3 : w3.cell? ⟨wr.heap.size, 3, none⟩ = some (.int .i64 y) := (hb.cell (p := ⟨wr.heap.size, 3, none⟩) (by simp <;> omega)).trans (by go_simp)
        replace kb2_0 : w3.cell? ⟨w1.heap.size, 0, none⟩ = some (.int .i64 off) := (hb.cell (p := ⟨w1.heap.size, 0, none⟩) (by simp <;> omega)).trans (by go_simp)
        replace kb3_1 : w3.cell? ⟨w1.heap.size, 1, none⟩ = some (.int .i64 L.1) := (hb.cell (p := ⟨w1.heap.size, 1, none⟩) (by simp <;> omega)).trans (by go_simp)
        replace kb3_1f : w3.frozen? ⟨w1.heap.size, 1, none⟩ = false := (hb.frozen (p := ⟨w1.heap.size, 1, none⟩) (by simp <;> omega)).trans (by go_simp)
        replace kb3_2 : w3.cell? ⟨w1.heap.size, 2, none⟩ = some (.int .i64 L.2) := (hb.cell (p := ⟨w1.heap.size, 2, none⟩) (by simp <;> omega)).trans (by go_simp)
        replace kb3_2f : w3.frozen? ⟨w1.heap.size, 2, none⟩ = false := (hb.frozen (p := ⟨w1.heap.size, 2, none⟩) (by simp <;> omega)).trans (by go_simp)
        have zb3 := hb.size; (try simp at zb3)
        replace zz : w.heap.size ≤ w3.heap.size := by omega
        replace ybw1_heap_size_1 : w1.heap.size+1 < w3.heap.size := by omega
        replace ybwr_heap_size : wr.heap.size < w3.heap.size := by omega
        replace ybw1_heap_size : w1.heap.size < w3.heap.size := by omega
        replace gg : Below w.heap.size w w3 := (by repeat' (first | (with_reducible exact Below.refl _ _) | (with_reducible assumption) | (with_reducible refine Below.drew ?_) | (with_reducible refine below_drewN ?_ _) | (with_reducible refine bel_alloc ?_ _) | (with_reducible refine Below.setCell ?_ ?_ _) | (with_reducible refine bel_call ?_ (by assumption)) | (simp <;> omega)))
        clear hb
        by_cases hE : learnE off x y t = 0
        · by_cases hN : 0 < cmpS x y ta tb
          · have hE1 : (learnE off x y t == 0) = true := by simp [hE]
            have hN1 : decide (0 < cmpS x y ta tb) = true := by simp [hN]
            have HE := Lib.hid hE
            clear hE hN
            go_wp2_with fail
            go_roundw
            case rel => exact ⟨k + 1, by omega, by go_num, L.1, L.2, x, y, ⟨by first | omega | (simp <;> omega), by go_simp, by go_simp, by go_simp, by go_simp, by go_simp⟩, ⟨by go_simp, by go_simp⟩, ⟨by go_simp, by go_simp⟩, LAW.out.1, LAW.out.2.2 HE.out, bel_set (bel_set gg (by simp; omega) _) (by simp; omega) _, by first | omega | (simp <;> omega)⟩
            case measure => simp [intOf]; omega
          · have hE1 : (learnE off x y t == 0) = true := by simp [hE]
            have hN1 : decide (0 < cmpS x y ta tb) = false := by simp; omega
            clear hE hN
            go_wp2_with fail
            go_roundw
            case rel => exact ⟨k + 1, by omega, by go_num, L.1, L.2, ta, tb, ⟨by first | omega | (simp <;> omega), by go_simp, by go_simp, by go_simp, by go_simp, by go_simp⟩, ⟨by go_simp, by go_simp⟩, ⟨by go_simp, by go_simp⟩, LAW.out.1, LAW.out.2.1, gg, by first | omega | (simp <;> omega)⟩
            case measure => simp [intOf]; omega
        · have hE1 : (learnE off x y t == 0) = false := by simp [hE]
          clear hE
          go_wp2_with fail
          go_roundw
          case rel => exact ⟨k + 1, by omega, by go_num, L.1, L.2, ta, tb, ⟨by first | omega | (simp <;> omega), by go_simp, by go_simp, by go_simp, by go_simp, by go_simp⟩, ⟨by go_simp, by go_simp⟩, ⟨by go_simp, by go_simp⟩, LAW.out.1, LAW.out.2.1, gg, by first | omega | (simp <;> omega)⟩
          case measure => simp [intOf]; omega
      · have hd1 : (d == 1) = false := by simp [hd]
        clear hd
        -- boxes
        go_wp2_with fail
        refine (now_any w1.heap.size off la lb t _ ⟨by first | omega | (simp <;> omega), by go_simp, by go_simp, by go_simp, by go_simp, by go_simp⟩).mono ?_
        rintro e w4 ⟨rfl, hck, hb⟩
        replace kb0_0 : w4.cell? ⟨w1.heap.size+1, 0, none⟩ = some (.int .i64 ta) := (gb_cell hb (b := w1.heap.size+1) (o := 0) (by first | omega | (simp <;> omega)) (by omega)).trans (by go_simp)
        replace kb0_0f : w4.frozen? ⟨w1.heap.size+1, 0, none⟩ = false := (gb_frozen hb (b := w1.heap.size+1) (o := 0) (by first | omega | (simp <;> omega)) (by omega)).trans (by go_simp)
        replace kb0_1 : w4.cell? ⟨w1.heap.size+1, 1, none⟩ = some (.int .i64 tb) := (gb_cell hb (b := w1.heap.size+1) (o := 1) (by first | omega | (simp <;> omega)) (by omega)).trans (by go_simp)
        replace kb0_1f : w4.frozen? ⟨w1.heap.size+1, 1, none⟩ = false := (gb_frozen hb (b := w1.heap.size+1) (o := 1) (by first | omega | (simp <;> omega)) (by omega)).trans (by go_simp)
        replace kb1_0 : w4.cell? ⟨wr.heap.size, 0, none⟩ = some (.int .i64 d) := (gb_cell hb (b := wr.heap.size) (o := 0) (by first | omega | (simp <;> omega)) (by omega)).trans (by go_simp)
        replace kb1_1 : w4.cell? ⟨wr.heap.size, 1, none⟩ = some (.int .i64 t) := (gb_cell hb (b := wr.heap.size) (o := 1) (by first | omega | (simp <;> omega)) (by omega)).trans (by go_simp)
        replace kb1_2 : w4.cell? ⟨wr.heap.size, 2, none⟩ = some (.int .i64 x) := (gb_cell hb (b := wr.heap.size) (o := 2) (by first | omega | (simp <;> omega)) (by omega)).trans (by go_simp)
        replace kb1_3 : w4.cell? ⟨wr.heap.size, 3, none⟩ = some (.int .i64 y) := (gb_cell hb (b := wr.heap.size) (o := 3) (by first | omega | (simp <;> omega)) (by omega)).trans (by go_simp)
        have zb4 := hb.size; (try simp at zb4)
        replace zz : w.heap.size ≤ w4.heap.size := by omega
        replace ybw1_heap_size_1 : w1.heap.size+1 < w4.heap.size := by omega
        replace ybwr_heap_size : wr.heap.size < w4.heap.size := by omega
        replace gg : Below w.heap.size w w4 := bel_grown (by repeat' (first | (with_reducible exact Below.refl _ _) | (with_reducible assumption) | (with_reducible refine Below.drew ?_) | (with_reducible refine below_drewN ?_ _) | (with_reducible refine bel_alloc ?_ _) | (with_reducible refine Below.setCell ?_ ?_ _) | (with_reducible refine bel_call ?_ (by assumption)) | (simp <;> omega))) hb (by omega)
        clear hb
        have eL : nowL la lb t = if (nowR la lb t).2.2 = 0 then ((nowR la lb t).1, (nowR la lb t).2.1) else (la, lb) := rfl
        have law := now_law (ta := ta) (tb := tb) (t := t) HR.out HL.out
        by_cases hE : (nowR la lb t).2.2 = 0
        · rw [if_pos hE] at eL
          have law2 := law hE
          clear law
          rw [eL] at hck
          clear eL
          unfold vse
          generalize nowR la lb t = S at *
          obtain ⟨s1, s2, s3⟩ := S
          simp only at hE law2 hck
          subst hE
          obtain ⟨l1, l2, l3⟩ := law2
          have l1' : (!right s1 s2) = false := by simp [l1]
          have l2' : decide (cmpS s1 s2 ta tb ≤ 0) = false := by simp; omega
          have l3' : decide (s1 < t) = false := by simp; omega
          have HR2 := Lib.hid l1
          clear l1 l2 HR HL
          clear c0 c1 c2 f1 f2
          obtain ⟨lt, c0, c1, c2, f1, f2⟩ := hck
          go_wp2_with fail
          -- boxes
          go_wp2_with fail
          refine (rCompare_any s1 s2 ta tb _).mono ?_
          rintro e w5 ⟨rfl, hb⟩
          replace kb0_0 : w5.cell? ⟨w1.heap.size+1, 0, none⟩ = some (.int .i64 ta) := (hb.cell (p := ⟨w1.heap.size+1, 0, none⟩) (by simp <;> omega)).trans (by go_simp)
          replace kb0_0f : w5.frozen? ⟨w1.heap.size+1, 0, none⟩ = false := (hb.frozen (p := ⟨w1.heap.size+1, 0, none⟩) (by simp <;> omega)).trans (by go_simp)
          replace kb0_1 : w5.cell? ⟨w1.heap.size+1, 1, none⟩ = some (.int .i64 tb) := (hb.cell (p := ⟨w1.heap.size+1, 1, none⟩) (by simp <;> omega)).trans (by go_simp)
          replace kb0_1f : w5.frozen? ⟨w1.heap.size+1, 1, none⟩ = false := (hb.frozen (p := ⟨w1.heap.size+1, 1, none⟩) (by simp <;> omega)).trans (by go_simp)
          replace kb1_0 : w5.cell? ⟨wr.heap.size, 0, none⟩ = some (.int .i64 d) := (hb.cell (p := ⟨wr.heap.size, 0, none⟩) (by simp <;> omega)).trans (by go_simp)
          replace kb1_1 : w5.cell? ⟨wr.heap.size, 1, none⟩ = some (.int .i64 t) := (hb.cell (p := ⟨wr.heap.size, 1, none⟩) (by simp <;> omega)).trans (by go_simp)
          replace kb1_2 : w5.cell? ⟨wr.heap.size, 2, none⟩ = some (.int .i64 x) := (hb.cell (p := ⟨wr.heap.size, 2, none⟩) (by simp <;> omega)).trans (by go_simp)
          replace kb1_3 : w5.cell? ⟨wr.heap.size, 3, none⟩ = some (.int .i64 y) := (hb.cell (p := ⟨wr.heap.size, 3, none⟩) (by simp <;> omega)).trans (by go_simp)
          replace kb2_0 : w5.cell? ⟨w1.heap.size, 0, none⟩ = some (.int .i64 off) := (hb.cell (p := ⟨w1.heap.size, 0, none⟩) (by simp <;> omega)).trans (by go_simp)
          replace kb3_1 : w5.cell? ⟨w1.heap.size, 1, none⟩ = some (.int .i64 s1) := (hb.cell (p := ⟨w1.heap.size, 1, none⟩) (by simp <;> omega)).trans (by go_simp)
          replace kb3_1f : w5.frozen? ⟨w1.heap.size, 1, none⟩ = false := (hb.frozen (p := ⟨w1.heap.size, 1, none⟩) (by simp <;> omega)).trans (by go_simp)
          replace kb3_2 : w5.cell? ⟨w1.heap.size, 2, none⟩ = some (.int .i64 s2) := (hb.cell (p := ⟨w1.heap.size, 2, none⟩) (by simp <;> omega)).trans (by go_simp)
          replace kb3_2f : w5.frozen? ⟨w1.heap.size, 2, none⟩ = false := (hb.frozen (p := ⟨w1.heap.size, 2, none⟩) (by simp <;> omega)).trans (by go_simp)
          replace kb4_0 : w5.cell? ⟨w4.heap.size, 0, none⟩ = some (.int .i64 s1) := (hb.cell (p := ⟨w4.heap.size, 0, none⟩) (by simp <;> omega)).trans (by go_simp)
          replace kb4_1 : w5.cell? ⟨w4.heap.size, 1, none⟩ = some (.int .i64 s2) := (hb.cell (p := ⟨w4.heap.size, 1, none⟩) (by simp <;> omega)).trans (by go_simp)
          have zb5 := hb.size; (try simp at zb5)
          replace zz : w.heap.size ≤ w5.heap.size := by omega
          replace ybw1_heap_size_1 : w1.heap.size+1 < w5.heap.size := by omega
          replace ybwr_heap_size : wr.heap.size < w5.heap.size := by omega
          replace ybw1_heap_size : w1.heap.size < w5.heap.size := by omega
          replace ybw4_heap_size : w4.heap.size < w5.heap.size := by omega
          replace gg : Below w.heap.size w w5 := (by repeat' (first | (with_reducible exact Below.refl _ _) | (with_reducible assumption) | (with_reducible refine Below.drew ?_) | (with_reducible refine below_drewN ?_ _) | (with_reducible refine bel_alloc ?_ _) | (with_reducible refine Below.setCell ?_ ?_ _) | (with_reducible refine bel_call ?_ (by assumption)) | (simp <;> omega)))
          clear hb
          go_wp2_with fail
          refine (rRight_any s1 s2 _).mono ?_
          rintro e w6 ⟨rfl, hb⟩
          replace kb0_0 : w6.cell? ⟨w1.heap.size+1, 0, none⟩ = some (.int .i64 ta) := (hb.cell (p := ⟨w1.heap.size+1, 0, none⟩) (by simp <;> omega)).trans (by go_simp)
          replace kb0_0f : w6.frozen? ⟨w1.heap.size+1, 0, none⟩ = false := (hb.frozen (p := ⟨w1.heap.size+1, 0, none⟩) (by simp <;> omega)).trans (by go_simp)
          replace kb0_1 : w6.cell? ⟨w1.heap.size+1, 1, none⟩ = some (.int .i64 tb) := (hb.cell (p := ⟨w1.heap.size+1, 1, none⟩) (by simp <;> omega)).trans (by go_simp)
          replace kb0_1f : w6.frozen? ⟨w1.heap.size+1, 1, none⟩ = false := (hb.frozen (p := ⟨w1.heap.size+1, 1, none⟩) (by simp <;> omega)).trans (by go_simp)
          replace kb1_0 : w6.cell? ⟨wr.heap.size, 0, none⟩ = some (.int .i64 d) := (hb.cell (p := ⟨wr.heap.size, 0, none⟩) (by simp <;> omega)).trans (by go_simp)
          replace kb1_1 : w6.cell? ⟨wr.heap.size, 1, none⟩ = some (.int .i64 t) := (hb.cell (p := ⟨wr.heap.size, 1, none⟩) (by simp <;> omega)).trans (by go_simp)
          replace kb1_2 : w6.cell? ⟨wr.heap.size, 2, none⟩ = some (.int .i64 x) := (hb.cell (p := ⟨wr.heap.size, 2, none⟩) (by simp <;> omega)).trans (by go_simp)
          replace kb1_3 : w6.cell? ⟨wr.heap.size, 3, none⟩ = some (.int .i64 y) := (hb.cell (p := ⟨wr.heap.size, 3, none⟩) (by simp <;> omega)).trans (by go_simp)
          replace kb2_0 : w6.cell? ⟨w1.heap.size, 0, none⟩ = some (.int .i64 off) := (hb.cell (p := ⟨w1.heap.size, 0, none⟩) (by simp <;> omega)).trans (by go_simp)
          replace kb3_1 : w6.cell? ⟨w1.heap.size, 1, none⟩ = some (.int .i64 s1) := (hb.cell (p := ⟨w1.heap.size, 1, none⟩) (by simp <;> omega)).trans (by go_simp)
          replace kb3_1f : w6.frozen? ⟨w1.heap.size, 1, none⟩ = false := (hb.frozen (p := ⟨w1.heap.size, 1, none⟩) (by simp <;> omega)).trans (by go_simp)
          replace kb3_2 : w6.cell? ⟨w1.heap.size, 2, none⟩ = some (.int .i64 s2) := (hb.cell (p := ⟨w1.heap.size, 2, none⟩) (by simp <;> omega)).trans (by go_simp)
          replace kb3_2f : w6.frozen? ⟨w1.heap.size, 2, none⟩ = false := (hb.frozen (p := ⟨w1.heap.size, 2, none⟩) (by simp <;> omega)).trans (by go_simp)
          replace kb4_0 : w6.cell? ⟨w4.heap.size, 0, none⟩ = some (.int .i64 s1) := (hb.cell (p := ⟨w4.heap.size, 0, none⟩) (by simp <;> omega)).trans (by go_simp)
          replace kb4_1 : w6.cell? ⟨w4.heap.size, 1, none⟩ = some (.int .i64 s2) := (hb.cell (p := ⟨w4.heap.size, 1, none⟩) (by simp <;> omega)).trans (by go_simp)
          have zb6 := hb.size; (try simp at zb6)
          replace zz : w.heap.size ≤ w6.heap.size := by omega
          replace ybw1_heap_size_1 : w1.heap.size+1 < w6.heap.size := by omega
          replace ybwr_heap_size : wr.heap.size < w6.heap.size := by omega
          replace ybw1_heap_size : w1.heap.size < w6.heap.size := by omega
          replace ybw4_heap_size : w4.heap.size < w6.heap.size := by omega
          replace gg : Below w.heap.size w w6 := (by repeat' (first | (with_reducible exact Below.refl _ _) | (with_reducible assumption) | (with_reducible refine Below.drew ?_) | (with_reducible refine below_drewN ?_ _) | (with_reducible refine bel_alloc ?_ _) | (with_reducible refine Below.setCell ?_ ?_ _) | (with_reducible refine bel_call ?_ (by assumption)) | (simp <;> omega)))
          clear hb
          go_wp2_with fail
          go_roundw
          case rel => exact ⟨k + 1, by omega, by go_num, s1, s2, s1, s2, ⟨by first | omega | (simp <;> omega), by go_simp, by go_simp, by go_simp, by go_simp, by go_simp⟩, ⟨by go_simp, by go_simp⟩, ⟨by go_simp, by go_simp⟩, HR2.out, by rw [rcmp5 rfl rfl]; decide, bel_set (bel_set gg (by simp; omega) _) (by simp; omega) _, by first | omega | (simp <;> omega)⟩
          case measure => simp [intOf]; omega
        · rw [if_neg hE] at eL
          rw [eL] at hck
          clear eL law
          have hE1 : ((nowR la lb t).2.2 != 0) = true := by simp [hE]
          clear hE
          unfold vse
          clear c0 c1 c2 f1 f2
          obtain ⟨lt, c0, c1, c2, f1, f2⟩ := hck
          go_wp2_with fail
          go_roundw
          case rel => exact ⟨k + 1, by omega, by go_num, la, lb, ta, tb, ⟨by first | omega | (simp <;> omega), by go_simp, by go_simp, by go_simp, by go_simp, by go_simp⟩, ⟨by go_simp, by go_simp⟩, ⟨by go_simp, by go_simp⟩, HR.out, HL.out, (by repeat' (first | (with_reducible exact Below.refl _ _) | (with_reducible assumption) | (with_reducible refine Below.drew ?_) | (with_reducible refine below_drewN ?_ _) | (with_reducible refine bel_alloc ?_ _) | (with_reducible refine Below.setCell ?_ ?_ _) | (with_reducible refine bel_call ?_ (by assumption)) | (simp <;> omega))), by first | omega | (simp <;> omega)⟩
          case measure => simp [intOf]; omega
    · have hkp : k = xs.length := by omega
      subst hkp
      go_wp2_with fail
      go_ret
      exact ⟨rfl, gg⟩
theorem rises_walk (off : Int) (v : Value) (xs : List (Int × Int × Int × Int)) (w : World) (h : IsSteps w v xs) :
    Calls Try.prog 6 #[.int .i64 off, v] w (Ret (.bool true) w) := by
  cases ho : isWall off
  · exact rises_no off v w ho
  · exact rises_yes off v xs w h ho
end Hlc
end Go.Proofs.Ytogooghigeemaaa
