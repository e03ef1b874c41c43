/- The document's Passed; Last. -/
import Derived.Test.YtogooghigeemaaaHlcStepsOpen
namespace Go.Proofs.Ytogooghigeemaaa
open Go.RowKit
namespace Hlc
attribute [local irreducible] wpQuiet
set_option maxHeartbeats 400000 in
theorem last_any (g : Nat) (off la lb : Int) (w : World) (h : Clk w g off la lb) :
    Calls Try.prog 30 #[.pointer (some ⟨g, 0, none⟩)] w (Ret (vst la lb) w) := by
  obtain ⟨lt, c0, c1, c2, f1, f2⟩ := h
  go_enter Try.func30, Try.ntmps30
  go_wp2_with fail
  exact bodyPost_ret (v := vst la lb) (by simp [results, Try.results30, go_sem, vst]) rfl ⟨rfl, (by repeat' (first | (with_reducible exact Below.refl _ _) | (with_reducible assumption) | (with_reducible refine Below.drew ?_) | (with_reducible refine below_drewN ?_ _) | (with_reducible refine bel_alloc ?_ _) | (with_reducible refine Below.setCell ?_ ?_ _) | (with_reducible refine bel_call ?_ (by assumption)) | (simp <;> omega)))⟩
set_option maxHeartbeats 1000000 in
theorem rpassed0 (g : Nat) (off la lb a b t : Int) (w : World) (h : Clk w g off la lb) (ht : isWall t = false) :
    Calls Try.prog 29 #[.pointer (some ⟨g, 0, none⟩), .agg #[.int .i64 a, .int .i64 b], .int .i64 t] w (Ret (.bool false) w) := by
  obtain ⟨lt, c0, _, _, _, _⟩ := h
  go_enter Try.func29, Try.ntmps29
  go_wp2_with fail
  refine (rIsWall_any _ _).mono ?_; rintro e w' ⟨rfl, rfl⟩
  -- boxes
  go_wp2_with fail
  refine (rRight_any a b _).mono ?_
  rintro e w1 ⟨rfl, hb⟩
  replace kb0_0 : w1.cell? ⟨w.heap.size, 0, none⟩ = some (.int .i64 a) := (hb.cell (p := ⟨w.heap.size, 0, none⟩) (by simp <;> omega)).trans (by go_simp)
  replace kb0_1 : w1.cell? ⟨w.heap.size, 1, none⟩ = some (.int .i64 b) := (hb.cell (p := ⟨w.heap.size, 1, none⟩) (by simp <;> omega)).trans (by go_simp)
  replace kb1_0 : w1.cell? ⟨g, 0, none⟩ = some (.int .i64 off) := (hb.cell (p := ⟨g, 0, none⟩) (by simp <;> omega)).trans (by go_simp)
  have zb1 := hb.size; (try simp at zb1)
  replace zz : w.heap.size ≤ w1.heap.size := by omega
  replace ybw_heap_size : w.heap.size < w1.heap.size := by omega
  replace ybg : g < w1.heap.size := by omega
  replace gg : Below w.heap.size w w1 := (by repeat' (first | (with_reducible exact Below.refl _ _) | (with_reducible assumption) | (with_reducible refine Below.drew ?_) | (with_reducible refine below_drewN ?_ _) | (with_reducible refine bel_alloc ?_ _) | (with_reducible refine Below.setCell ?_ ?_ _) | (with_reducible refine bel_call ?_ (by assumption)) | (simp <;> omega)))
  clear hb
  go_wp2_with fail
  refine wp_region_below (by kernel_rfl) (by kernel_rfl) ?_
  refine quiet_ext ?_; apply Exists.intro; refine ⟨fun w9 hC => ?_, ?_⟩
  · replace zz0 : w9.cell? ⟨w.heap.size, 0, none⟩ = some (.int .i64 a) := (hC.cell (p := ⟨w.heap.size, 0, none⟩) (by simp <;> omega)).trans (by go_simp); replace zz1 : w9.cell? ⟨w.heap.size, 1, none⟩ = some (.int .i64 b) := (hC.cell (p := ⟨w.heap.size, 1, none⟩) (by simp <;> omega)).trans (by go_simp); replace zz2 : w9.cell? ⟨g, 0, none⟩ = some (.int .i64 off) := (hC.cell (p := ⟨g, 0, none⟩) (by simp <;> omega)).trans (by go_simp); go_simp; first | done | exact rfl | exact ⟨rfl, rfl⟩
  simp only [Act.put, List.setIfInBounds_toArray, List.set_cons_succ, List.set_cons_zero]
  refine quiet_ext ?_; apply Exists.intro; refine ⟨fun w9 hC => ?_, ?_⟩
  · replace zz0 : w9.cell? ⟨w.heap.size, 0, none⟩ = some (.int .i64 a) := (hC.cell (p := ⟨w.heap.size, 0, none⟩) (by simp <;> omega)).trans (by go_simp); replace zz1 : w9.cell? ⟨w.heap.size, 1, none⟩ = some (.int .i64 b) := (hC.cell (p := ⟨w.heap.size, 1, none⟩) (by simp <;> omega)).trans (by go_simp); replace zz2 : w9.cell? ⟨g, 0, none⟩ = some (.int .i64 off) := (hC.cell (p := ⟨g, 0, none⟩) (by simp <;> omega)).trans (by go_simp); go_simp; first | done | exact rfl | exact ⟨rfl, rfl⟩
  simp only [Act.put, List.setIfInBounds_toArray, List.set_cons_succ, List.set_cons_zero]
  refine quiet_ext ?_; apply Exists.intro; refine ⟨fun w9 hC => ?_, ?_⟩
  · replace zz0 : w9.cell? ⟨w.heap.size, 0, none⟩ = some (.int .i64 a) := (hC.cell (p := ⟨w.heap.size, 0, none⟩) (by simp <;> omega)).trans (by go_simp); replace zz1 : w9.cell? ⟨w.heap.size, 1, none⟩ = some (.int .i64 b) := (hC.cell (p := ⟨w.heap.size, 1, none⟩) (by simp <;> omega)).trans (by go_simp); replace zz2 : w9.cell? ⟨g, 0, none⟩ = some (.int .i64 off) := (hC.cell (p := ⟨g, 0, none⟩) (by simp <;> omega)).trans (by go_simp); go_simp; first | done | exact rfl | exact ⟨rfl, rfl⟩
  simp only [Act.put, List.setIfInBounds_toArray, List.set_cons_succ, List.set_cons_zero]
  refine quiet_ext ?_; apply Exists.intro; refine ⟨fun w9 hC => ?_, ?_⟩
  · replace zz0 : w9.cell? ⟨w.heap.size, 0, none⟩ = some (.int .i64 a) := (hC.cell (p := ⟨w.heap.size, 0, none⟩) (by simp <;> omega)).trans (by go_simp); replace zz1 : w9.cell? ⟨w.heap.size, 1, none⟩ = some (.int .i64 b) := (hC.cell (p := ⟨w.heap.size, 1, none⟩) (by simp <;> omega)).trans (by go_simp); replace zz2 : w9.cell? ⟨g, 0, none⟩ = some (.int .i64 off) := (hC.cell (p := ⟨g, 0, none⟩) (by simp <;> omega)).trans (by go_simp); go_simp; first | done | exact rfl | exact ⟨rfl, rfl⟩
  simp only [Act.put, List.setIfInBounds_toArray, List.set_cons_succ, List.set_cons_zero]
  refine quiet_ext ?_; apply Exists.intro; refine ⟨fun w9 hC => ?_, ?_⟩
  · replace zz0 : w9.cell? ⟨w.heap.size, 0, none⟩ = some (.int .i64 a) := (hC.cell (p := ⟨w.heap.size, 0, none⟩) (by simp <;> omega)).trans (by go_simp); replace zz1 : w9.cell? ⟨w.heap.size, 1, none⟩ = some (.int .i64 b) := (hC.cell (p := ⟨w.heap.size, 1, none⟩) (by simp <;> omega)).trans (by go_simp); replace zz2 : w9.cell? ⟨g, 0, none⟩ = some (.int .i64 off) := (hC.cell (p := ⟨g, 0, none⟩) (by simp <;> omega)).trans (by go_simp); go_simp; first | done | exact rfl | exact ⟨rfl, rfl⟩
  simp only [Act.put, List.setIfInBounds_toArray, List.set_cons_succ, List.set_cons_zero]
  refine quiet_ext ?_; apply Exists.intro; refine ⟨fun w9 hC => ?_, ?_⟩
  · replace zz0 : w9.cell? ⟨w.heap.size, 0, none⟩ = some (.int .i64 a) := (hC.cell (p := ⟨w.heap.size, 0, none⟩) (by simp <;> omega)).trans (by go_simp); replace zz1 : w9.cell? ⟨w.heap.size, 1, none⟩ = some (.int .i64 b) := (hC.cell (p := ⟨w.heap.size, 1, none⟩) (by simp <;> omega)).trans (by go_simp); replace zz2 : w9.cell? ⟨g, 0, none⟩ = some (.int .i64 off) := (hC.cell (p := ⟨g, 0, none⟩) (by simp <;> omega)).trans (by go_simp); go_simp; first | done | exact rfl | exact ⟨rfl, rfl⟩
  simp only [Act.put, List.setIfInBounds_toArray, List.set_cons_succ, List.set_cons_zero]
  refine quiet_ext ?_; apply Exists.intro; refine ⟨fun w9 hC => ?_, ?_⟩
  · replace zz0 : w9.cell? ⟨w.heap.size, 0, none⟩ = some (.int .i64 a) := (hC.cell (p := ⟨w.heap.size, 0, none⟩) (by simp <;> omega)).trans (by go_simp); replace zz1 : w9.cell? ⟨w.heap.size, 1, none⟩ = some (.int .i64 b) := (hC.cell (p := ⟨w.heap.size, 1, none⟩) (by simp <;> omega)).trans (by go_simp); replace zz2 : w9.cell? ⟨g, 0, none⟩ = some (.int .i64 off) := (hC.cell (p := ⟨g, 0, none⟩) (by simp <;> omega)).trans (by go_simp); go_simp; first | done | exact rfl | exact ⟨rfl, rfl⟩
  simp only [Act.put, List.setIfInBounds_toArray, List.set_cons_succ, List.set_cons_zero]
  refine quiet_ext ?_; apply Exists.intro; refine ⟨fun w9 hC => ?_, ?_⟩
  · replace zz0 : w9.cell? ⟨w.heap.size, 0, none⟩ = some (.int .i64 a) := (hC.cell (p := ⟨w.heap.size, 0, none⟩) (by simp <;> omega)).trans (by go_simp); replace zz1 : w9.cell? ⟨w.heap.size, 1, none⟩ = some (.int .i64 b) := (hC.cell (p := ⟨w.heap.size, 1, none⟩) (by simp <;> omega)).trans (by go_simp); replace zz2 : w9.cell? ⟨g, 0, none⟩ = some (.int .i64 off) := (hC.cell (p := ⟨g, 0, none⟩) (by simp <;> omega)).trans (by go_simp); go_simp; first | done | exact rfl | exact ⟨rfl, rfl⟩
  simp only [Act.put, List.setIfInBounds_toArray, List.set_cons_succ, List.set_cons_zero]
  refine quiet_ext ?_; apply Exists.intro; refine ⟨fun w9 hC => ?_, ?_⟩
  · replace zz0 : w9.cell? ⟨w.heap.size, 0, none⟩ = some (.int .i64 a) := (hC.cell (p := ⟨w.heap.size, 0, none⟩) (by simp <;> omega)).trans (by go_simp); replace zz1 : w9.cell? ⟨w.heap.size, 1, none⟩ = some (.int .i64 b) := (hC.cell (p := ⟨w.heap.size, 1, none⟩) (by simp <;> omega)).trans (by go_simp); replace zz2 : w9.cell? ⟨g, 0, none⟩ = some (.int .i64 off) := (hC.cell (p := ⟨g, 0, none⟩) (by simp <;> omega)).trans (by go_simp); go_simp; first | done | exact rfl | exact ⟨rfl, rfl⟩
  simp only [Act.put, List.setIfInBounds_toArray, List.set_cons_succ, List.set_cons_zero]
  refine quiet_ext ?_; apply Exists.intro; refine ⟨fun w9 hC => ?_, ?_⟩
  · replace zz0 : w9.cell? ⟨w.heap.size, 0, none⟩ = some (.int .i64 a) := (hC.cell (p := ⟨w.heap.size, 0, none⟩) (by simp <;> omega)).trans (by go_simp); replace zz1 : w9.cell? ⟨w.heap.size, 1, none⟩ = some (.int .i64 b) := (hC.cell (p := ⟨w.heap.size, 1, none⟩) (by simp <;> omega)).trans (by go_simp); replace zz2 : w9.cell? ⟨g, 0, none⟩ = some (.int .i64 off) := (hC.cell (p := ⟨g, 0, none⟩) (by simp <;> omega)).trans (by go_simp); go_simp; first | done | exact rfl | exact ⟨rfl, rfl⟩
  simp only [Act.put, List.setIfInBounds_toArray, List.set_cons_succ, List.set_cons_zero]
  refine quiet_ext ?_; apply Exists.intro; refine ⟨fun w9 hC => ?_, ?_⟩
  · replace zz0 : w9.cell? ⟨w.heap.size, 0, none⟩ = some (.int .i64 a) := (hC.cell (p := ⟨w.heap.size, 0, none⟩) (by simp <;> omega)).trans (by go_simp); replace zz1 : w9.cell? ⟨w.heap.size, 1, none⟩ = some (.int .i64 b) := (hC.cell (p := ⟨w.heap.size, 1, none⟩) (by simp <;> omega)).trans (by go_simp); replace zz2 : w9.cell? ⟨g, 0, none⟩ = some (.int .i64 off) := (hC.cell (p := ⟨g, 0, none⟩) (by simp <;> omega)).trans (by go_simp); go_simp; first | done | exact rfl | exact ⟨rfl, rfl⟩
  simp only [Act.put, List.setIfInBounds_toArray, List.set_cons_succ, List.set_cons_zero]
  refine quiet_ext ?_; apply Exists.intro; refine ⟨fun w9 hC => ?_, ?_⟩
  · replace zz0 : w9.cell? ⟨w.heap.size, 0, none⟩ = some (.int .i64 a) := (hC.cell (p := ⟨w.heap.size, 0, none⟩) (by simp <;> omega)).trans (by go_simp); replace zz1 : w9.cell? ⟨w.heap.size, 1, none⟩ = some (.int .i64 b) := (hC.cell (p := ⟨w.heap.size, 1, none⟩) (by simp <;> omega)).trans (by go_simp); replace zz2 : w9.cell? ⟨g, 0, none⟩ = some (.int .i64 off) := (hC.cell (p := ⟨g, 0, none⟩) (by simp <;> omega)).trans (by go_simp); go_simp; first | done | exact rfl | exact ⟨rfl, rfl⟩
  simp only [Act.put, List.setIfInBounds_toArray, List.set_cons_succ, List.set_cons_zero]
  refine quiet_ext ?_; apply Exists.intro; refine ⟨fun w9 hC => ?_, ?_⟩
  · replace zz0 : w9.cell? ⟨w.heap.size, 0, none⟩ = some (.int .i64 a) := (hC.cell (p := ⟨w.heap.size, 0, none⟩) (by simp <;> omega)).trans (by go_simp); replace zz1 : w9.cell? ⟨w.heap.size, 1, none⟩ = some (.int .i64 b) := (hC.cell (p := ⟨w.heap.size, 1, none⟩) (by simp <;> omega)).trans (by go_simp); replace zz2 : w9.cell? ⟨g, 0, none⟩ = some (.int .i64 off) := (hC.cell (p := ⟨g, 0, none⟩) (by simp <;> omega)).trans (by go_simp); go_simp; first | done | exact rfl | exact ⟨rfl, rfl⟩
  simp only [Act.put, List.setIfInBounds_toArray, List.set_cons_succ, List.set_cons_zero]
  refine quiet_ext ?_; apply Exists.intro; refine ⟨fun w9 hC => ?_, ?_⟩
  · replace zz0 : w9.cell? ⟨w.heap.size, 0, none⟩ = some (.int .i64 a) := (hC.cell (p := ⟨w.heap.size, 0, none⟩) (by simp <;> omega)).trans (by go_simp); replace zz1 : w9.cell? ⟨w.heap.size, 1, none⟩ = some (.int .i64 b) := (hC.cell (p := ⟨w.heap.size, 1, none⟩) (by simp <;> omega)).trans (by go_simp); replace zz2 : w9.cell? ⟨g, 0, none⟩ = some (.int .i64 off) := (hC.cell (p := ⟨g, 0, none⟩) (by simp <;> omega)).trans (by go_simp); go_simp; first | done | exact rfl | exact ⟨rfl, rfl⟩
  simp only [Act.put, List.setIfInBounds_toArray, List.set_cons_succ, List.set_cons_zero]
  refine quiet_ext ?_; apply Exists.intro; refine ⟨fun w9 hC => ?_, ?_⟩
  · replace zz0 : w9.cell? ⟨w.heap.size, 0, none⟩ = some (.int .i64 a) := (hC.cell (p := ⟨w.heap.size, 0, none⟩) (by simp <;> omega)).trans (by go_simp); replace zz1 : w9.cell? ⟨w.heap.size, 1, none⟩ = some (.int .i64 b) := (hC.cell (p := ⟨w.heap.size, 1, none⟩) (by simp <;> omega)).trans (by go_simp); replace zz2 : w9.cell? ⟨g, 0, none⟩ = some (.int .i64 off) := (hC.cell (p := ⟨g, 0, none⟩) (by simp <;> omega)).trans (by go_simp); go_simp; first | done | exact rfl | exact ⟨rfl, rfl⟩
  simp only [Act.put, List.setIfInBounds_toArray, List.set_cons_succ, List.set_cons_zero]
  refine quiet_ext ?_; apply Exists.intro; refine ⟨fun w9 hC => ?_, ?_⟩
  · replace zz0 : w9.cell? ⟨w.heap.size, 0, none⟩ = some (.int .i64 a) := (hC.cell (p := ⟨w.heap.size, 0, none⟩) (by simp <;> omega)).trans (by go_simp); replace zz1 : w9.cell? ⟨w.heap.size, 1, none⟩ = some (.int .i64 b) := (hC.cell (p := ⟨w.heap.size, 1, none⟩) (by simp <;> omega)).trans (by go_simp); replace zz2 : w9.cell? ⟨g, 0, none⟩ = some (.int .i64 off) := (hC.cell (p := ⟨g, 0, none⟩) (by simp <;> omega)).trans (by go_simp); go_simp; first | done | exact rfl | exact ⟨rfl, rfl⟩
  simp only [Act.put, List.setIfInBounds_toArray, List.set_cons_succ, List.set_cons_zero]
  refine quiet_ext ?_; apply Exists.intro; refine ⟨fun w9 hC => ?_, ?_⟩
  · replace zz0 : w9.cell? ⟨w.heap.size, 0, none⟩ = some (.int .i64 a) := (hC.cell (p := ⟨w.heap.size, 0, none⟩) (by simp <;> omega)).trans (by go_simp); replace zz1 : w9.cell? ⟨w.heap.size, 1, none⟩ = some (.int .i64 b) := (hC.cell (p := ⟨w.heap.size, 1, none⟩) (by simp <;> omega)).trans (by go_simp); replace zz2 : w9.cell? ⟨g, 0, none⟩ = some (.int .i64 off) := (hC.cell (p := ⟨g, 0, none⟩) (by simp <;> omega)).trans (by go_simp); go_simp; first | done | exact rfl | exact ⟨rfl, rfl⟩
  simp only [Act.put, List.setIfInBounds_toArray, List.set_cons_succ, List.set_cons_zero]
  refine quiet_ext ?_; apply Exists.intro; refine ⟨fun w9 hC => ?_, ?_⟩
  · replace zz0 : w9.cell? ⟨w.heap.size, 0, none⟩ = some (.int .i64 a) := (hC.cell (p := ⟨w.heap.size, 0, none⟩) (by simp <;> omega)).trans (by go_simp); replace zz1 : w9.cell? ⟨w.heap.size, 1, none⟩ = some (.int .i64 b) := (hC.cell (p := ⟨w.heap.size, 1, none⟩) (by simp <;> omega)).trans (by go_simp); replace zz2 : w9.cell? ⟨g, 0, none⟩ = some (.int .i64 off) := (hC.cell (p := ⟨g, 0, none⟩) (by simp <;> omega)).trans (by go_simp); go_simp; first | done | exact rfl | exact ⟨rfl, rfl⟩
  simp only [Act.put, List.setIfInBounds_toArray, List.set_cons_succ, List.set_cons_zero]
  refine quiet_ext ?_; apply Exists.intro; refine ⟨fun w9 hC => ?_, ?_⟩
  · replace zz0 : w9.cell? ⟨w.heap.size, 0, none⟩ = some (.int .i64 a) := (hC.cell (p := ⟨w.heap.size, 0, none⟩) (by simp <;> omega)).trans (by go_simp); replace zz1 : w9.cell? ⟨w.heap.size, 1, none⟩ = some (.int .i64 b) := (hC.cell (p := ⟨w.heap.size, 1, none⟩) (by simp <;> omega)).trans (by go_simp); replace zz2 : w9.cell? ⟨g, 0, none⟩ = some (.int .i64 off) := (hC.cell (p := ⟨g, 0, none⟩) (by simp <;> omega)).trans (by go_simp); go_simp; first | done | exact rfl | exact ⟨rfl, rfl⟩
  simp only [Act.put, List.setIfInBounds_toArray, List.set_cons_succ, List.set_cons_zero]
  refine quiet_ext ?_; apply Exists.intro; refine ⟨fun w9 hC => ?_, ?_⟩
  · replace zz0 : w9.cell? ⟨w.heap.size, 0, none⟩ = some (.int .i64 a) := (hC.cell (p := ⟨w.heap.size, 0, none⟩) (by simp <;> omega)).trans (by go_simp); replace zz1 : w9.cell? ⟨w.heap.size, 1, none⟩ = some (.int .i64 b) := (hC.cell (p := ⟨w.heap.size, 1, none⟩) (by simp <;> omega)).trans (by go_simp); replace zz2 : w9.cell? ⟨g, 0, none⟩ = some (.int .i64 off) := (hC.cell (p := ⟨g, 0, none⟩) (by simp <;> omega)).trans (by go_simp); go_simp; first | done | exact rfl | exact ⟨rfl, rfl⟩
  simp only [Act.put, List.setIfInBounds_toArray, List.set_cons_succ, List.set_cons_zero]
  refine quiet_ext ?_; apply Exists.intro; refine ⟨fun w9 hC => ?_, ?_⟩
  · replace zz0 : w9.cell? ⟨w.heap.size, 0, none⟩ = some (.int .i64 a) := (hC.cell (p := ⟨w.heap.size, 0, none⟩) (by simp <;> omega)).trans (by go_simp); replace zz1 : w9.cell? ⟨w.heap.size, 1, none⟩ = some (.int .i64 b) := (hC.cell (p := ⟨w.heap.size, 1, none⟩) (by simp <;> omega)).trans (by go_simp); replace zz2 : w9.cell? ⟨g, 0, none⟩ = some (.int .i64 off) := (hC.cell (p := ⟨g, 0, none⟩) (by simp <;> omega)).trans (by go_simp); go_simp; first | done | exact rfl | exact ⟨rfl, rfl⟩
  simp only [Act.put, List.setIfInBounds_toArray, List.set_cons_succ, List.set_cons_zero]
  refine quiet_ext ?_; apply Exists.intro; refine ⟨fun w9 hC => ?_, ?_⟩
  · replace zz0 : w9.cell? ⟨w.heap.size, 0, none⟩ = some (.int .i64 a) := (hC.cell (p := ⟨w.heap.size, 0, none⟩) (by simp <;> omega)).trans (by go_simp); replace zz1 : w9.cell? ⟨w.heap.size, 1, none⟩ = some (.int .i64 b) := (hC.cell (p := ⟨w.heap.size, 1, none⟩) (by simp <;> omega)).trans (by go_simp); replace zz2 : w9.cell? ⟨g, 0, none⟩ = some (.int .i64 off) := (hC.cell (p := ⟨g, 0, none⟩) (by simp <;> omega)).trans (by go_simp); go_simp; first | done | exact rfl | exact ⟨rfl, rfl⟩
  simp only [Act.put, List.setIfInBounds_toArray, List.set_cons_succ, List.set_cons_zero]
  refine wpQuiet_nil ?_
  intro w2 hC
  replace gg := bel_call (w := w) (by repeat' (first | (with_reducible exact Below.refl _ _) | (with_reducible assumption) | (with_reducible refine Below.drew ?_) | (with_reducible refine below_drewN ?_ _) | (with_reducible refine bel_alloc ?_ _) | (with_reducible refine Below.setCell ?_ ?_ _) | (with_reducible refine bel_call ?_ (by assumption)) | (simp <;> omega))) hC.below
  clear hC
  go_wp2_with fail
  go_ret
  exact ⟨rfl, gg⟩
set_option maxHeartbeats 1000000 in
theorem rpassed1 (g : Nat) (off la lb a b t : Int) (w : World) (h : Clk w g off la lb) (ht : isWall t = true) (hr : right a b = false) :
    Calls Try.prog 29 #[.pointer (some ⟨g, 0, none⟩), .agg #[.int .i64 a, .int .i64 b], .int .i64 t] w (Ret (.bool false) w) := by
  obtain ⟨lt, c0, _, _, _, _⟩ := h
  go_enter Try.func29, Try.ntmps29
  go_wp2_with fail
  refine (rIsWall_any _ _).mono ?_; rintro e w' ⟨rfl, rfl⟩
  -- boxes
  go_wp2_with fail
  refine (rRight_any a b _).mono ?_
  rintro e w1 ⟨rfl, hb⟩
  replace kb0_0 : w1.cell? ⟨w.heap.size, 0, none⟩ = some (.int .i64 a) := (hb.cell (p := ⟨w.heap.size, 0, none⟩) (by simp <;> omega)).trans (by go_simp)
  replace kb0_1 : w1.cell? ⟨w.heap.size, 1, none⟩ = some (.int .i64 b) := (hb.cell (p := ⟨w.heap.size, 1, none⟩) (by simp <;> omega)).trans (by go_simp)
  replace kb1_0 : w1.cell? ⟨g, 0, none⟩ = some (.int .i64 off) := (hb.cell (p := ⟨g, 0, none⟩) (by simp <;> omega)).trans (by go_simp)
  have zb1 := hb.size; (try simp at zb1)
  replace zz : w.heap.size ≤ w1.heap.size := by omega
  replace ybw_heap_size : w.heap.size < w1.heap.size := by omega
  replace ybg : g < w1.heap.size := by omega
  replace gg : Below w.heap.size w w1 := (by repeat' (first | (with_reducible exact Below.refl _ _) | (with_reducible assumption) | (with_reducible refine Below.drew ?_) | (with_reducible refine below_drewN ?_ _) | (with_reducible refine bel_alloc ?_ _) | (with_reducible refine Below.setCell ?_ ?_ _) | (with_reducible refine bel_call ?_ (by assumption)) | (simp <;> omega)))
  clear hb
  go_wp2_with fail
  refine wp_region_below (by kernel_rfl) (by kernel_rfl) ?_
  refine quiet_ext ?_; apply Exists.intro; refine ⟨fun w9 hC => ?_, ?_⟩
  · replace zz0 : w9.cell? ⟨w.heap.size, 0, none⟩ = some (.int .i64 a) := (hC.cell (p := ⟨w.heap.size, 0, none⟩) (by simp <;> omega)).trans (by go_simp); replace zz1 : w9.cell? ⟨w.heap.size, 1, none⟩ = some (.int .i64 b) := (hC.cell (p := ⟨w.heap.size, 1, none⟩) (by simp <;> omega)).trans (by go_simp); replace zz2 : w9.cell? ⟨g, 0, none⟩ = some (.int .i64 off) := (hC.cell (p := ⟨g, 0, none⟩) (by simp <;> omega)).trans (by go_simp); go_simp; first | done | exact rfl | exact ⟨rfl, rfl⟩
  simp only [Act.put, List.setIfInBounds_toArray, List.set_cons_succ, List.set_cons_zero]
  refine quiet_ext ?_; apply Exists.intro; refine ⟨fun w9 hC => ?_, ?_⟩
  · replace zz0 : w9.cell? ⟨w.heap.size, 0, none⟩ = some (.int .i64 a) := (hC.cell (p := ⟨w.heap.size, 0, none⟩) (by simp <;> omega)).trans (by go_simp); replace zz1 : w9.cell? ⟨w.heap.size, 1, none⟩ = some (.int .i64 b) := (hC.cell (p := ⟨w.heap.size, 1, none⟩) (by simp <;> omega)).trans (by go_simp); replace zz2 : w9.cell? ⟨g, 0, none⟩ = some (.int .i64 off) := (hC.cell (p := ⟨g, 0, none⟩) (by simp <;> omega)).trans (by go_simp); go_simp; first | done | exact rfl | exact ⟨rfl, rfl⟩
  simp only [Act.put, List.setIfInBounds_toArray, List.set_cons_succ, List.set_cons_zero]
  refine quiet_ext ?_; apply Exists.intro; refine ⟨fun w9 hC => ?_, ?_⟩
  · replace zz0 : w9.cell? ⟨w.heap.size, 0, none⟩ = some (.int .i64 a) := (hC.cell (p := ⟨w.heap.size, 0, none⟩) (by simp <;> omega)).trans (by go_simp); replace zz1 : w9.cell? ⟨w.heap.size, 1, none⟩ = some (.int .i64 b) := (hC.cell (p := ⟨w.heap.size, 1, none⟩) (by simp <;> omega)).trans (by go_simp); replace zz2 : w9.cell? ⟨g, 0, none⟩ = some (.int .i64 off) := (hC.cell (p := ⟨g, 0, none⟩) (by simp <;> omega)).trans (by go_simp); go_simp; first | done | exact rfl | exact ⟨rfl, rfl⟩
  simp only [Act.put, List.setIfInBounds_toArray, List.set_cons_succ, List.set_cons_zero]
  refine quiet_ext ?_; apply Exists.intro; refine ⟨fun w9 hC => ?_, ?_⟩
  · replace zz0 : w9.cell? ⟨w.heap.size, 0, none⟩ = some (.int .i64 a) := (hC.cell (p := ⟨w.heap.size, 0, none⟩) (by simp <;> omega)).trans (by go_simp); replace zz1 : w9.cell? ⟨w.heap.size, 1, none⟩ = some (.int .i64 b) := (hC.cell (p := ⟨w.heap.size, 1, none⟩) (by simp <;> omega)).trans (by go_simp); replace zz2 : w9.cell? ⟨g, 0, none⟩ = some (.int .i64 off) := (hC.cell (p := ⟨g, 0, none⟩) (by simp <;> omega)).trans (by go_simp); go_simp; first | done | exact rfl | exact ⟨rfl, rfl⟩
  simp only [Act.put, List.setIfInBounds_toArray, List.set_cons_succ, List.set_cons_zero]
  refine quiet_ext ?_; apply Exists.intro; refine ⟨fun w9 hC => ?_, ?_⟩
  · replace zz0 : w9.cell? ⟨w.heap.size, 0, none⟩ = some (.int .i64 a) := (hC.cell (p := ⟨w.heap.size, 0, none⟩) (by simp <;> omega)).trans (by go_simp); replace zz1 : w9.cell? ⟨w.heap.size, 1, none⟩ = some (.int .i64 b) := (hC.cell (p := ⟨w.heap.size, 1, none⟩) (by simp <;> omega)).trans (by go_simp); replace zz2 : w9.cell? ⟨g, 0, none⟩ = some (.int .i64 off) := (hC.cell (p := ⟨g, 0, none⟩) (by simp <;> omega)).trans (by go_simp); go_simp; first | done | exact rfl | exact ⟨rfl, rfl⟩
  simp only [Act.put, List.setIfInBounds_toArray, List.set_cons_succ, List.set_cons_zero]
  refine quiet_ext ?_; apply Exists.intro; refine ⟨fun w9 hC => ?_, ?_⟩
  · replace zz0 : w9.cell? ⟨w.heap.size, 0, none⟩ = some (.int .i64 a) := (hC.cell (p := ⟨w.heap.size, 0, none⟩) (by simp <;> omega)).trans (by go_simp); replace zz1 : w9.cell? ⟨w.heap.size, 1, none⟩ = some (.int .i64 b) := (hC.cell (p := ⟨w.heap.size, 1, none⟩) (by simp <;> omega)).trans (by go_simp); replace zz2 : w9.cell? ⟨g, 0, none⟩ = some (.int .i64 off) := (hC.cell (p := ⟨g, 0, none⟩) (by simp <;> omega)).trans (by go_simp); go_simp; first | done | exact rfl | exact ⟨rfl, rfl⟩
  simp only [Act.put, List.setIfInBounds_toArray, List.set_cons_succ, List.set_cons_zero]
  refine quiet_ext ?_; apply Exists.intro; refine ⟨fun w9 hC => ?_, ?_⟩
  · replace zz0 : w9.cell? ⟨w.heap.size, 0, none⟩ = some (.int .i64 a) := (hC.cell (p := ⟨w.heap.size, 0, none⟩) (by simp <;> omega)).trans (by go_simp); replace zz1 : w9.cell? ⟨w.heap.size, 1, none⟩ = some (.int .i64 b) := (hC.cell (p := ⟨w.heap.size, 1, none⟩) (by simp <;> omega)).trans (by go_simp); replace zz2 : w9.cell? ⟨g, 0, none⟩ = some (.int .i64 off) := (hC.cell (p := ⟨g, 0, none⟩) (by simp <;> omega)).trans (by go_simp); go_simp; first | done | exact rfl | exact ⟨rfl, rfl⟩
  simp only [Act.put, List.setIfInBounds_toArray, List.set_cons_succ, List.set_cons_zero]
  refine quiet_ext ?_; apply Exists.intro; refine ⟨fun w9 hC => ?_, ?_⟩
  · replace zz0 : w9.cell? ⟨w.heap.size, 0, none⟩ = some (.int .i64 a) := (hC.cell (p := ⟨w.heap.size, 0, none⟩) (by simp <;> omega)).trans (by go_simp); replace zz1 : w9.cell? ⟨w.heap.size, 1, none⟩ = some (.int .i64 b) := (hC.cell (p := ⟨w.heap.size, 1, none⟩) (by simp <;> omega)).trans (by go_simp); replace zz2 : w9.cell? ⟨g, 0, none⟩ = some (.int .i64 off) := (hC.cell (p := ⟨g, 0, none⟩) (by simp <;> omega)).trans (by go_simp); go_simp; first | done | exact rfl | exact ⟨rfl, rfl⟩
  simp only [Act.put, List.setIfInBounds_toArray, List.set_cons_succ, List.set_cons_zero]
  refine quiet_ext ?_; apply Exists.intro; refine ⟨fun w9 hC => ?_, ?_⟩
  · replace zz0 : w9.cell? ⟨w.heap.size, 0, none⟩ = some (.int .i64 a) := (hC.cell (p := ⟨w.heap.size, 0, none⟩) (by simp <;> omega)).trans (by go_simp); replace zz1 : w9.cell? ⟨w.heap.size, 1, none⟩ = some (.int .i64 b) := (hC.cell (p := ⟨w.heap.size, 1, none⟩) (by simp <;> omega)).trans (by go_simp); replace zz2 : w9.cell? ⟨g, 0, none⟩ = some (.int .i64 off) := (hC.cell (p := ⟨g, 0, none⟩) (by simp <;> omega)).trans (by go_simp); go_simp; first | done | exact rfl | exact ⟨rfl, rfl⟩
  simp only [Act.put, List.setIfInBounds_toArray, List.set_cons_succ, List.set_cons_zero]
  refine quiet_ext ?_; apply Exists.intro; refine ⟨fun w9 hC => ?_, ?_⟩
  · replace zz0 : w9.cell? ⟨w.heap.size, 0, none⟩ = some (.int .i64 a) := (hC.cell (p := ⟨w.heap.size, 0, none⟩) (by simp <;> omega)).trans (by go_simp); replace zz1 : w9.cell? ⟨w.heap.size, 1, none⟩ = some (.int .i64 b) := (hC.cell (p := ⟨w.heap.size, 1, none⟩) (by simp <;> omega)).trans (by go_simp); replace zz2 : w9.cell? ⟨g, 0, none⟩ = some (.int .i64 off) := (hC.cell (p := ⟨g, 0, none⟩) (by simp <;> omega)).trans (by go_simp); go_simp; first | done | exact rfl | exact ⟨rfl, rfl⟩
  simp only [Act.put, List.setIfInBounds_toArray, List.set_cons_succ, List.set_cons_zero]
  refine quiet_ext ?_; apply Exists.intro; refine ⟨fun w9 hC => ?_, ?_⟩
  · replace zz0 : w9.cell? ⟨w.heap.size, 0, none⟩ = some (.int .i64 a) := (hC.cell (p := ⟨w.heap.size, 0, none⟩) (by simp <;> omega)).trans (by go_simp); replace zz1 : w9.cell? ⟨w.heap.size, 1, none⟩ = some (.int .i64 b) := (hC.cell (p := ⟨w.heap.size, 1, none⟩) (by simp <;> omega)).trans (by go_simp); replace zz2 : w9.cell? ⟨g, 0, none⟩ = some (.int .i64 off) := (hC.cell (p := ⟨g, 0, none⟩) (by simp <;> omega)).trans (by go_simp); go_simp; first | done | exact rfl | exact ⟨rfl, rfl⟩
  simp only [Act.put, List.setIfInBounds_toArray, List.set_cons_succ, List.set_cons_zero]
  refine quiet_ext ?_; apply Exists.intro; refine ⟨fun w9 hC => ?_, ?_⟩
  · replace zz0 : w9.cell? ⟨w.heap.size, 0, none⟩ = some (.int .i64 a) := (hC.cell (p := ⟨w.heap.size, 0, none⟩) (by simp <;> omega)).trans (by go_simp); replace zz1 : w9.cell? ⟨w.heap.size, 1, none⟩ = some (.int .i64 b) := (hC.cell (p := ⟨w.heap.size, 1, none⟩) (by simp <;> omega)).trans (by go_simp); replace zz2 : w9.cell? ⟨g, 0, none⟩ = some (.int .i64 off) := (hC.cell (p := ⟨g, 0, none⟩) (by simp <;> omega)).trans (by go_simp); go_simp; first | done | exact rfl | exact ⟨rfl, rfl⟩
  simp only [Act.put, List.setIfInBounds_toArray, List.set_cons_succ, List.set_cons_zero]
  refine quiet_ext ?_; apply Exists.intro; refine ⟨fun w9 hC => ?_, ?_⟩
  · replace zz0 : w9.cell? ⟨w.heap.size, 0, none⟩ = some (.int .i64 a) := (hC.cell (p := ⟨w.heap.size, 0, none⟩) (by simp <;> omega)).trans (by go_simp); replace zz1 : w9.cell? ⟨w.heap.size, 1, none⟩ = some (.int .i64 b) := (hC.cell (p := ⟨w.heap.size, 1, none⟩) (by simp <;> omega)).trans (by go_simp); replace zz2 : w9.cell? ⟨g, 0, none⟩ = some (.int .i64 off) := (hC.cell (p := ⟨g, 0, none⟩) (by simp <;> omega)).trans (by go_simp); go_simp; first | done | exact rfl | exact ⟨rfl, rfl⟩
  simp only [Act.put, List.setIfInBounds_toArray, List.set_cons_succ, List.set_cons_zero]
  refine quiet_ext ?_; apply Exists.intro; refine ⟨fun w9 hC => ?_, ?_⟩
  · replace zz0 : w9.cell? ⟨w.heap.size, 0, none⟩ = some (.int .i64 a) := (hC.cell (p := ⟨w.heap.size, 0, none⟩) (by simp <;> omega)).trans (by go_simp); replace zz1 : w9.cell? ⟨w.heap.size, 1, none⟩ = some (.int .i64 b) := (hC.cell (p := ⟨w.heap.size, 1, none⟩) (by simp <;> omega)).trans (by go_simp); replace zz2 : w9.cell? ⟨g, 0, none⟩ = some (.int .i64 off) := (hC.cell (p := ⟨g, 0, none⟩) (by simp <;> omega)).trans (by go_simp); go_simp; first | done | exact rfl | exact ⟨rfl, rfl⟩
  simp only [Act.put, List.setIfInBounds_toArray, List.set_cons_succ, List.set_cons_zero]
  refine quiet_ext ?_; apply Exists.intro; refine ⟨fun w9 hC => ?_, ?_⟩
  · replace zz0 : w9.cell? ⟨w.heap.size, 0, none⟩ = some (.int .i64 a) := (hC.cell (p := ⟨w.heap.size, 0, none⟩) (by simp <;> omega)).trans (by go_simp); replace zz1 : w9.cell? ⟨w.heap.size, 1, none⟩ = some (.int .i64 b) := (hC.cell (p := ⟨w.heap.size, 1, none⟩) (by simp <;> omega)).trans (by go_simp); replace zz2 : w9.cell? ⟨g, 0, none⟩ = some (.int .i64 off) := (hC.cell (p := ⟨g, 0, none⟩) (by simp <;> omega)).trans (by go_simp); go_simp; first | done | exact rfl | exact ⟨rfl, rfl⟩
  simp only [Act.put, List.setIfInBounds_toArray, List.set_cons_succ, List.set_cons_zero]
  refine quiet_ext ?_; apply Exists.intro; refine ⟨fun w9 hC => ?_, ?_⟩
  · replace zz0 : w9.cell? ⟨w.heap.size, 0, none⟩ = some (.int .i64 a) := (hC.cell (p := ⟨w.heap.size, 0, none⟩) (by simp <;> omega)).trans (by go_simp); replace zz1 : w9.cell? ⟨w.heap.size, 1, none⟩ = some (.int .i64 b) := (hC.cell (p := ⟨w.heap.size, 1, none⟩) (by simp <;> omega)).trans (by go_simp); replace zz2 : w9.cell? ⟨g, 0, none⟩ = some (.int .i64 off) := (hC.cell (p := ⟨g, 0, none⟩) (by simp <;> omega)).trans (by go_simp); go_simp; first | done | exact rfl | exact ⟨rfl, rfl⟩
  simp only [Act.put, List.setIfInBounds_toArray, List.set_cons_succ, List.set_cons_zero]
  refine quiet_ext ?_; apply Exists.intro; refine ⟨fun w9 hC => ?_, ?_⟩
  · replace zz0 : w9.cell? ⟨w.heap.size, 0, none⟩ = some (.int .i64 a) := (hC.cell (p := ⟨w.heap.size, 0, none⟩) (by simp <;> omega)).trans (by go_simp); replace zz1 : w9.cell? ⟨w.heap.size, 1, none⟩ = some (.int .i64 b) := (hC.cell (p := ⟨w.heap.size, 1, none⟩) (by simp <;> omega)).trans (by go_simp); replace zz2 : w9.cell? ⟨g, 0, none⟩ = some (.int .i64 off) := (hC.cell (p := ⟨g, 0, none⟩) (by simp <;> omega)).trans (by go_simp); go_simp; first | done | exact rfl | exact ⟨rfl, rfl⟩
  simp only [Act.put, List.setIfInBounds_toArray, List.set_cons_succ, List.set_cons_zero]
  refine quiet_ext ?_; apply Exists.intro; refine ⟨fun w9 hC => ?_, ?_⟩
  · replace zz0 : w9.cell? ⟨w.heap.size, 0, none⟩ = some (.int .i64 a) := (hC.cell (p := ⟨w.heap.size, 0, none⟩) (by simp <;> omega)).trans (by go_simp); replace zz1 : w9.cell? ⟨w.heap.size, 1, none⟩ = some (.int .i64 b) := (hC.cell (p := ⟨w.heap.size, 1, none⟩) (by simp <;> omega)).trans (by go_simp); replace zz2 : w9.cell? ⟨g, 0, none⟩ = some (.int .i64 off) := (hC.cell (p := ⟨g, 0, none⟩) (by simp <;> omega)).trans (by go_simp); go_simp; first | done | exact rfl | exact ⟨rfl, rfl⟩
  simp only [Act.put, List.setIfInBounds_toArray, List.set_cons_succ, List.set_cons_zero]
  refine quiet_ext ?_; apply Exists.intro; refine ⟨fun w9 hC => ?_, ?_⟩
  · replace zz0 : w9.cell? ⟨w.heap.size, 0, none⟩ = some (.int .i64 a) := (hC.cell (p := ⟨w.heap.size, 0, none⟩) (by simp <;> omega)).trans (by go_simp); replace zz1 : w9.cell? ⟨w.heap.size, 1, none⟩ = some (.int .i64 b) := (hC.cell (p := ⟨w.heap.size, 1, none⟩) (by simp <;> omega)).trans (by go_simp); replace zz2 : w9.cell? ⟨g, 0, none⟩ = some (.int .i64 off) := (hC.cell (p := ⟨g, 0, none⟩) (by simp <;> omega)).trans (by go_simp); go_simp; first | done | exact rfl | exact ⟨rfl, rfl⟩
  simp only [Act.put, List.setIfInBounds_toArray, List.set_cons_succ, List.set_cons_zero]
  refine quiet_ext ?_; apply Exists.intro; refine ⟨fun w9 hC => ?_, ?_⟩
  · replace zz0 : w9.cell? ⟨w.heap.size, 0, none⟩ = some (.int .i64 a) := (hC.cell (p := ⟨w.heap.size, 0, none⟩) (by simp <;> omega)).trans (by go_simp); replace zz1 : w9.cell? ⟨w.heap.size, 1, none⟩ = some (.int .i64 b) := (hC.cell (p := ⟨w.heap.size, 1, none⟩) (by simp <;> omega)).trans (by go_simp); replace zz2 : w9.cell? ⟨g, 0, none⟩ = some (.int .i64 off) := (hC.cell (p := ⟨g, 0, none⟩) (by simp <;> omega)).trans (by go_simp); go_simp; first | done | exact rfl | exact ⟨rfl, rfl⟩
  simp only [Act.put, List.setIfInBounds_toArray, List.set_cons_succ, List.set_cons_zero]
  refine quiet_ext ?_; apply Exists.intro; refine ⟨fun w9 hC => ?_, ?_⟩
  · replace zz0 : w9.cell? ⟨w.heap.size, 0, none⟩ = some (.int .i64 a) := (hC.cell (p := ⟨w.heap.size, 0, none⟩) (by simp <;> omega)).trans (by go_simp); replace zz1 : w9.cell? ⟨w.heap.size, 1, none⟩ = some (.int .i64 b) := (hC.cell (p := ⟨w.heap.size, 1, none⟩) (by simp <;> omega)).trans (by go_simp); replace zz2 : w9.cell? ⟨g, 0, none⟩ = some (.int .i64 off) := (hC.cell (p := ⟨g, 0, none⟩) (by simp <;> omega)).trans (by go_simp); go_simp; first | done | exact rfl | exact ⟨rfl, rfl⟩
  simp only [Act.put, List.setIfInBounds_toArray, List.set_cons_succ, List.set_cons_zero]
  refine quiet_ext ?_; apply Exists.intro; refine ⟨fun w9 hC => ?_, ?_⟩
  · replace zz0 : w9.cell? ⟨w.heap.size, 0, none⟩ = some (.int .i64 a) := (hC.cell (p := ⟨w.heap.size, 0, none⟩) (by simp <;> omega)).trans (by go_simp); replace zz1 : w9.cell? ⟨w.heap.size, 1, none⟩ = some (.int .i64 b) := (hC.cell (p := ⟨w.heap.size, 1, none⟩) (by simp <;> omega)).trans (by go_simp); replace zz2 : w9.cell? ⟨g, 0, none⟩ = some (.int .i64 off) := (hC.cell (p := ⟨g, 0, none⟩) (by simp <;> omega)).trans (by go_simp); go_simp; first | done | exact rfl | exact ⟨rfl, rfl⟩
  simp only [Act.put, List.setIfInBounds_toArray, List.set_cons_succ, List.set_cons_zero]
  refine wpQuiet_nil ?_
  intro w2 hC
  replace gg := bel_call (w := w) (by repeat' (first | (with_reducible exact Below.refl _ _) | (with_reducible assumption) | (with_reducible refine Below.drew ?_) | (with_reducible refine below_drewN ?_ _) | (with_reducible refine bel_alloc ?_ _) | (with_reducible refine Below.setCell ?_ ?_ _) | (with_reducible refine bel_call ?_ (by assumption)) | (simp <;> omega))) hC.below
  clear hC
  go_wp2_with fail
  go_ret
  exact ⟨rfl, gg⟩
set_option maxHeartbeats 1000000 in
theorem rpassed2 (g : Nat) (off la lb a b t : Int) (w : World) (h : Clk w g off la lb) (ht : isWall t = true) (hr : right a b = true) (hle : t ≤ a) :
    Calls Try.prog 29 #[.pointer (some ⟨g, 0, none⟩), .agg #[.int .i64 a, .int .i64 b], .int .i64 t] w (Ret (.bool false) w) := by
  have hl : decide (a < t) = false := by simp; omega
  obtain ⟨lt, c0, _, _, _, _⟩ := h
  go_enter Try.func29, Try.ntmps29
  go_wp2_with fail
  refine (rIsWall_any _ _).mono ?_; rintro e w' ⟨rfl, rfl⟩
  -- boxes
  go_wp2_with fail
  refine (rRight_any a b _).mono ?_
  rintro e w1 ⟨rfl, hb⟩
  replace kb0_0 : w1.cell? ⟨w.heap.size, 0, none⟩ = some (.int .i64 a) := (hb.cell (p := ⟨w.heap.size, 0, none⟩) (by simp <;> omega)).trans (by go_simp)
  replace kb0_1 : w1.cell? ⟨w.heap.size, 1, none⟩ = some (.int .i64 b) := (hb.cell (p := ⟨w.heap.size, 1, none⟩) (by simp <;> omega)).trans (by go_simp)
  replace kb1_0 : w1.cell? ⟨g, 0, none⟩ = some (.int .i64 off) := (hb.cell (p := ⟨g, 0, none⟩) (by simp <;> omega)).trans (by go_simp)
  have zb1 := hb.size; (try simp at zb1)
  replace zz : w.heap.size ≤ w1.heap.size := by omega
  replace ybw_heap_size : w.heap.size < w1.heap.size := by omega
  replace ybg : g < w1.heap.size := by omega
  replace gg : Below w.heap.size w w1 := (by repeat' (first | (with_reducible exact Below.refl _ _) | (with_reducible assumption) | (with_reducible refine Below.drew ?_) | (with_reducible refine below_drewN ?_ _) | (with_reducible refine bel_alloc ?_ _) | (with_reducible refine Below.setCell ?_ ?_ _) | (with_reducible refine bel_call ?_ (by assumption)) | (simp <;> omega)))
  clear hb
  go_wp2_with fail
  refine wp_region_below (by kernel_rfl) (by kernel_rfl) ?_
  refine quiet_ext ?_; apply Exists.intro; refine ⟨fun w9 hC => ?_, ?_⟩
  · replace zz0 : w9.cell? ⟨w.heap.size, 0, none⟩ = some (.int .i64 a) := (hC.cell (p := ⟨w.heap.size, 0, none⟩) (by simp <;> omega)).trans (by go_simp); replace zz1 : w9.cell? ⟨w.heap.size, 1, none⟩ = some (.int .i64 b) := (hC.cell (p := ⟨w.heap.size, 1, none⟩) (by simp <;> omega)).trans (by go_simp); replace zz2 : w9.cell? ⟨g, 0, none⟩ = some (.int .i64 off) := (hC.cell (p := ⟨g, 0, none⟩) (by simp <;> omega)).trans (by go_simp); go_simp; first | done | exact rfl | exact ⟨rfl, rfl⟩
  simp only [Act.put, List.setIfInBounds_toArray, List.set_cons_succ, List.set_cons_zero]
  refine quiet_ext ?_; apply Exists.intro; refine ⟨fun w9 hC => ?_, ?_⟩
  · replace zz0 : w9.cell? ⟨w.heap.size, 0, none⟩ = some (.int .i64 a) := (hC.cell (p := ⟨w.heap.size, 0, none⟩) (by simp <;> omega)).trans (by go_simp); replace zz1 : w9.cell? ⟨w.heap.size, 1, none⟩ = some (.int .i64 b) := (hC.cell (p := ⟨w.heap.size, 1, none⟩) (by simp <;> omega)).trans (by go_simp); replace zz2 : w9.cell? ⟨g, 0, none⟩ = some (.int .i64 off) := (hC.cell (p := ⟨g, 0, none⟩) (by simp <;> omega)).trans (by go_simp); go_simp; first | done | exact rfl | exact ⟨rfl, rfl⟩
  simp only [Act.put, List.setIfInBounds_toArray, List.set_cons_succ, List.set_cons_zero]
  refine quiet_ext ?_; apply Exists.intro; refine ⟨fun w9 hC => ?_, ?_⟩
  · replace zz0 : w9.cell? ⟨w.heap.size, 0, none⟩ = some (.int .i64 a) := (hC.cell (p := ⟨w.heap.size, 0, none⟩) (by simp <;> omega)).trans (by go_simp); replace zz1 : w9.cell? ⟨w.heap.size, 1, none⟩ = some (.int .i64 b) := (hC.cell (p := ⟨w.heap.size, 1, none⟩) (by simp <;> omega)).trans (by go_simp); replace zz2 : w9.cell? ⟨g, 0, none⟩ = some (.int .i64 off) := (hC.cell (p := ⟨g, 0, none⟩) (by simp <;> omega)).trans (by go_simp); go_simp; first | done | exact rfl | exact ⟨rfl, rfl⟩
  simp only [Act.put, List.setIfInBounds_toArray, List.set_cons_succ, List.set_cons_zero]
  refine quiet_ext ?_; apply Exists.intro; refine ⟨fun w9 hC => ?_, ?_⟩
  · replace zz0 : w9.cell? ⟨w.heap.size, 0, none⟩ = some (.int .i64 a) := (hC.cell (p := ⟨w.heap.size, 0, none⟩) (by simp <;> omega)).trans (by go_simp); replace zz1 : w9.cell? ⟨w.heap.size, 1, none⟩ = some (.int .i64 b) := (hC.cell (p := ⟨w.heap.size, 1, none⟩) (by simp <;> omega)).trans (by go_simp); replace zz2 : w9.cell? ⟨g, 0, none⟩ = some (.int .i64 off) := (hC.cell (p := ⟨g, 0, none⟩) (by simp <;> omega)).trans (by go_simp); go_simp; first | done | exact rfl | exact ⟨rfl, rfl⟩
  simp only [Act.put, List.setIfInBounds_toArray, List.set_cons_succ, List.set_cons_zero]
  refine quiet_ext ?_; apply Exists.intro; refine ⟨fun w9 hC => ?_, ?_⟩
  · replace zz0 : w9.cell? ⟨w.heap.size, 0, none⟩ = some (.int .i64 a) := (hC.cell (p := ⟨w.heap.size, 0, none⟩) (by simp <;> omega)).trans (by go_simp); replace zz1 : w9.cell? ⟨w.heap.size, 1, none⟩ = some (.int .i64 b) := (hC.cell (p := ⟨w.heap.size, 1, none⟩) (by simp <;> omega)).trans (by go_simp); replace zz2 : w9.cell? ⟨g, 0, none⟩ = some (.int .i64 off) := (hC.cell (p := ⟨g, 0, none⟩) (by simp <;> omega)).trans (by go_simp); go_simp; first | done | exact rfl | exact ⟨rfl, rfl⟩
  simp only [Act.put, List.setIfInBounds_toArray, List.set_cons_succ, List.set_cons_zero]
  refine quiet_ext ?_; apply Exists.intro; refine ⟨fun w9 hC => ?_, ?_⟩
  · replace zz0 : w9.cell? ⟨w.heap.size, 0, none⟩ = some (.int .i64 a) := (hC.cell (p := ⟨w.heap.size, 0, none⟩) (by simp <;> omega)).trans (by go_simp); replace zz1 : w9.cell? ⟨w.heap.size, 1, none⟩ = some (.int .i64 b) := (hC.cell (p := ⟨w.heap.size, 1, none⟩) (by simp <;> omega)).trans (by go_simp); replace zz2 : w9.cell? ⟨g, 0, none⟩ = some (.int .i64 off) := (hC.cell (p := ⟨g, 0, none⟩) (by simp <;> omega)).trans (by go_simp); go_simp; first | done | exact rfl | exact ⟨rfl, rfl⟩
  simp only [Act.put, List.setIfInBounds_toArray, List.set_cons_succ, List.set_cons_zero]
  refine quiet_ext ?_; apply Exists.intro; refine ⟨fun w9 hC => ?_, ?_⟩
  · replace zz0 : w9.cell? ⟨w.heap.size, 0, none⟩ = some (.int .i64 a) := (hC.cell (p := ⟨w.heap.size, 0, none⟩) (by simp <;> omega)).trans (by go_simp); replace zz1 : w9.cell? ⟨w.heap.size, 1, none⟩ = some (.int .i64 b) := (hC.cell (p := ⟨w.heap.size, 1, none⟩) (by simp <;> omega)).trans (by go_simp); replace zz2 : w9.cell? ⟨g, 0, none⟩ = some (.int .i64 off) := (hC.cell (p := ⟨g, 0, none⟩) (by simp <;> omega)).trans (by go_simp); go_simp; first | done | exact rfl | exact ⟨rfl, rfl⟩
  simp only [Act.put, List.setIfInBounds_toArray, List.set_cons_succ, List.set_cons_zero]
  refine quiet_ext ?_; apply Exists.intro; refine ⟨fun w9 hC => ?_, ?_⟩
  · replace zz0 : w9.cell? ⟨w.heap.size, 0, none⟩ = some (.int .i64 a) := (hC.cell (p := ⟨w.heap.size, 0, none⟩) (by simp <;> omega)).trans (by go_simp); replace zz1 : w9.cell? ⟨w.heap.size, 1, none⟩ = some (.int .i64 b) := (hC.cell (p := ⟨w.heap.size, 1, none⟩) (by simp <;> omega)).trans (by go_simp); replace zz2 : w9.cell? ⟨g, 0, none⟩ = some (.int .i64 off) := (hC.cell (p := ⟨g, 0, none⟩) (by simp <;> omega)).trans (by go_simp); go_simp; first | done | exact rfl | exact ⟨rfl, rfl⟩
  simp only [Act.put, List.setIfInBounds_toArray, List.set_cons_succ, List.set_cons_zero]
  refine quiet_ext ?_; apply Exists.intro; refine ⟨fun w9 hC => ?_, ?_⟩
  · replace zz0 : w9.cell? ⟨w.heap.size, 0, none⟩ = some (.int .i64 a) := (hC.cell (p := ⟨w.heap.size, 0, none⟩) (by simp <;> omega)).trans (by go_simp); replace zz1 : w9.cell? ⟨w.heap.size, 1, none⟩ = some (.int .i64 b) := (hC.cell (p := ⟨w.heap.size, 1, none⟩) (by simp <;> omega)).trans (by go_simp); replace zz2 : w9.cell? ⟨g, 0, none⟩ = some (.int .i64 off) := (hC.cell (p := ⟨g, 0, none⟩) (by simp <;> omega)).trans (by go_simp); go_simp; first | done | exact rfl | exact ⟨rfl, rfl⟩
  simp only [Act.put, List.setIfInBounds_toArray, List.set_cons_succ, List.set_cons_zero]
  refine quiet_ext ?_; apply Exists.intro; refine ⟨fun w9 hC => ?_, ?_⟩
  · replace zz0 : w9.cell? ⟨w.heap.size, 0, none⟩ = some (.int .i64 a) := (hC.cell (p := ⟨w.heap.size, 0, none⟩) (by simp <;> omega)).trans (by go_simp); replace zz1 : w9.cell? ⟨w.heap.size, 1, none⟩ = some (.int .i64 b) := (hC.cell (p := ⟨w.heap.size, 1, none⟩) (by simp <;> omega)).trans (by go_simp); replace zz2 : w9.cell? ⟨g, 0, none⟩ = some (.int .i64 off) := (hC.cell (p := ⟨g, 0, none⟩) (by simp <;> omega)).trans (by go_simp); go_simp; first | done | exact rfl | exact ⟨rfl, rfl⟩
  simp only [Act.put, List.setIfInBounds_toArray, List.set_cons_succ, List.set_cons_zero]
  refine quiet_ext ?_; apply Exists.intro; refine ⟨fun w9 hC => ?_, ?_⟩
  · replace zz0 : w9.cell? ⟨w.heap.size, 0, none⟩ = some (.int .i64 a) := (hC.cell (p := ⟨w.heap.size, 0, none⟩) (by simp <;> omega)).trans (by go_simp); replace zz1 : w9.cell? ⟨w.heap.size, 1, none⟩ = some (.int .i64 b) := (hC.cell (p := ⟨w.heap.size, 1, none⟩) (by simp <;> omega)).trans (by go_simp); replace zz2 : w9.cell? ⟨g, 0, none⟩ = some (.int .i64 off) := (hC.cell (p := ⟨g, 0, none⟩) (by simp <;> omega)).trans (by go_simp); go_simp; first | done | exact rfl | exact ⟨rfl, rfl⟩
  simp only [Act.put, List.setIfInBounds_toArray, List.set_cons_succ, List.set_cons_zero]
  refine quiet_ext ?_; apply Exists.intro; refine ⟨fun w9 hC => ?_, ?_⟩
  · replace zz0 : w9.cell? ⟨w.heap.size, 0, none⟩ = some (.int .i64 a) := (hC.cell (p := ⟨w.heap.size, 0, none⟩) (by simp <;> omega)).trans (by go_simp); replace zz1 : w9.cell? ⟨w.heap.size, 1, none⟩ = some (.int .i64 b) := (hC.cell (p := ⟨w.heap.size, 1, none⟩) (by simp <;> omega)).trans (by go_simp); replace zz2 : w9.cell? ⟨g, 0, none⟩ = some (.int .i64 off) := (hC.cell (p := ⟨g, 0, none⟩) (by simp <;> omega)).trans (by go_simp); go_simp; first | done | exact rfl | exact ⟨rfl, rfl⟩
  simp only [Act.put, List.setIfInBounds_toArray, List.set_cons_succ, List.set_cons_zero]
  refine quiet_ext ?_; apply Exists.intro; refine ⟨fun w9 hC => ?_, ?_⟩
  · replace zz0 : w9.cell? ⟨w.heap.size, 0, none⟩ = some (.int .i64 a) := (hC.cell (p := ⟨w.heap.size, 0, none⟩) (by simp <;> omega)).trans (by go_simp); replace zz1 : w9.cell? ⟨w.heap.size, 1, none⟩ = some (.int .i64 b) := (hC.cell (p := ⟨w.heap.size, 1, none⟩) (by simp <;> omega)).trans (by go_simp); replace zz2 : w9.cell? ⟨g, 0, none⟩ = some (.int .i64 off) := (hC.cell (p := ⟨g, 0, none⟩) (by simp <;> omega)).trans (by go_simp); go_simp; first | done | exact rfl | exact ⟨rfl, rfl⟩
  simp only [Act.put, List.setIfInBounds_toArray, List.set_cons_succ, List.set_cons_zero]
  refine quiet_ext ?_; apply Exists.intro; refine ⟨fun w9 hC => ?_, ?_⟩
  · replace zz0 : w9.cell? ⟨w.heap.size, 0, none⟩ = some (.int .i64 a) := (hC.cell (p := ⟨w.heap.size, 0, none⟩) (by simp <;> omega)).trans (by go_simp); replace zz1 : w9.cell? ⟨w.heap.size, 1, none⟩ = some (.int .i64 b) := (hC.cell (p := ⟨w.heap.size, 1, none⟩) (by simp <;> omega)).trans (by go_simp); replace zz2 : w9.cell? ⟨g, 0, none⟩ = some (.int .i64 off) := (hC.cell (p := ⟨g, 0, none⟩) (by simp <;> omega)).trans (by go_simp); go_simp; first | done | exact rfl | exact ⟨rfl, rfl⟩
  simp only [Act.put, List.setIfInBounds_toArray, List.set_cons_succ, List.set_cons_zero]
  refine quiet_ext ?_; apply Exists.intro; refine ⟨fun w9 hC => ?_, ?_⟩
  · replace zz0 : w9.cell? ⟨w.heap.size, 0, none⟩ = some (.int .i64 a) := (hC.cell (p := ⟨w.heap.size, 0, none⟩) (by simp <;> omega)).trans (by go_simp); replace zz1 : w9.cell? ⟨w.heap.size, 1, none⟩ = some (.int .i64 b) := (hC.cell (p := ⟨w.heap.size, 1, none⟩) (by simp <;> omega)).trans (by go_simp); replace zz2 : w9.cell? ⟨g, 0, none⟩ = some (.int .i64 off) := (hC.cell (p := ⟨g, 0, none⟩) (by simp <;> omega)).trans (by go_simp); go_simp; first | done | exact rfl | exact ⟨rfl, rfl⟩
  simp only [Act.put, List.setIfInBounds_toArray, List.set_cons_succ, List.set_cons_zero]
  refine quiet_ext ?_; apply Exists.intro; refine ⟨fun w9 hC => ?_, ?_⟩
  · replace zz0 : w9.cell? ⟨w.heap.size, 0, none⟩ = some (.int .i64 a) := (hC.cell (p := ⟨w.heap.size, 0, none⟩) (by simp <;> omega)).trans (by go_simp); replace zz1 : w9.cell? ⟨w.heap.size, 1, none⟩ = some (.int .i64 b) := (hC.cell (p := ⟨w.heap.size, 1, none⟩) (by simp <;> omega)).trans (by go_simp); replace zz2 : w9.cell? ⟨g, 0, none⟩ = some (.int .i64 off) := (hC.cell (p := ⟨g, 0, none⟩) (by simp <;> omega)).trans (by go_simp); go_simp; first | done | exact rfl | exact ⟨rfl, rfl⟩
  simp only [Act.put, List.setIfInBounds_toArray, List.set_cons_succ, List.set_cons_zero]
  refine quiet_ext ?_; apply Exists.intro; refine ⟨fun w9 hC => ?_, ?_⟩
  · replace zz0 : w9.cell? ⟨w.heap.size, 0, none⟩ = some (.int .i64 a) := (hC.cell (p := ⟨w.heap.size, 0, none⟩) (by simp <;> omega)).trans (by go_simp); replace zz1 : w9.cell? ⟨w.heap.size, 1, none⟩ = some (.int .i64 b) := (hC.cell (p := ⟨w.heap.size, 1, none⟩) (by simp <;> omega)).trans (by go_simp); replace zz2 : w9.cell? ⟨g, 0, none⟩ = some (.int .i64 off) := (hC.cell (p := ⟨g, 0, none⟩) (by simp <;> omega)).trans (by go_simp); go_simp; first | done | exact rfl | exact ⟨rfl, rfl⟩
  simp only [Act.put, List.setIfInBounds_toArray, List.set_cons_succ, List.set_cons_zero]
  refine quiet_ext ?_; apply Exists.intro; refine ⟨fun w9 hC => ?_, ?_⟩
  · replace zz0 : w9.cell? ⟨w.heap.size, 0, none⟩ = some (.int .i64 a) := (hC.cell (p := ⟨w.heap.size, 0, none⟩) (by simp <;> omega)).trans (by go_simp); replace zz1 : w9.cell? ⟨w.heap.size, 1, none⟩ = some (.int .i64 b) := (hC.cell (p := ⟨w.heap.size, 1, none⟩) (by simp <;> omega)).trans (by go_simp); replace zz2 : w9.cell? ⟨g, 0, none⟩ = some (.int .i64 off) := (hC.cell (p := ⟨g, 0, none⟩) (by simp <;> omega)).trans (by go_simp); go_simp; first | done | exact rfl | exact ⟨rfl, rfl⟩
  simp only [Act.put, List.setIfInBounds_toArray, List.set_cons_succ, List.set_cons_zero]
  refine quiet_ext ?_; apply Exists.intro; refine ⟨fun w9 hC => ?_, ?_⟩
  · replace zz0 : w9.cell? ⟨w.heap.size, 0, none⟩ = some (.int .i64 a) := (hC.cell (p := ⟨w.heap.size, 0, none⟩) (by simp <;> omega)).trans (by go_simp); replace zz1 : w9.cell? ⟨w.heap.size, 1, none⟩ = some (.int .i64 b) := (hC.cell (p := ⟨w.heap.size, 1, none⟩) (by simp <;> omega)).trans (by go_simp); replace zz2 : w9.cell? ⟨g, 0, none⟩ = some (.int .i64 off) := (hC.cell (p := ⟨g, 0, none⟩) (by simp <;> omega)).trans (by go_simp); go_simp; first | done | exact rfl | exact ⟨rfl, rfl⟩
  simp only [Act.put, List.setIfInBounds_toArray, List.set_cons_succ, List.set_cons_zero]
  refine quiet_ext ?_; apply Exists.intro; refine ⟨fun w9 hC => ?_, ?_⟩
  · replace zz0 : w9.cell? ⟨w.heap.size, 0, none⟩ = some (.int .i64 a) := (hC.cell (p := ⟨w.heap.size, 0, none⟩) (by simp <;> omega)).trans (by go_simp); replace zz1 : w9.cell? ⟨w.heap.size, 1, none⟩ = some (.int .i64 b) := (hC.cell (p := ⟨w.heap.size, 1, none⟩) (by simp <;> omega)).trans (by go_simp); replace zz2 : w9.cell? ⟨g, 0, none⟩ = some (.int .i64 off) := (hC.cell (p := ⟨g, 0, none⟩) (by simp <;> omega)).trans (by go_simp); go_simp; first | done | exact rfl | exact ⟨rfl, rfl⟩
  simp only [Act.put, List.setIfInBounds_toArray, List.set_cons_succ, List.set_cons_zero]
  refine quiet_ext ?_; apply Exists.intro; refine ⟨fun w9 hC => ?_, ?_⟩
  · replace zz0 : w9.cell? ⟨w.heap.size, 0, none⟩ = some (.int .i64 a) := (hC.cell (p := ⟨w.heap.size, 0, none⟩) (by simp <;> omega)).trans (by go_simp); replace zz1 : w9.cell? ⟨w.heap.size, 1, none⟩ = some (.int .i64 b) := (hC.cell (p := ⟨w.heap.size, 1, none⟩) (by simp <;> omega)).trans (by go_simp); replace zz2 : w9.cell? ⟨g, 0, none⟩ = some (.int .i64 off) := (hC.cell (p := ⟨g, 0, none⟩) (by simp <;> omega)).trans (by go_simp); go_simp; first | done | exact rfl | exact ⟨rfl, rfl⟩
  simp only [Act.put, List.setIfInBounds_toArray, List.set_cons_succ, List.set_cons_zero]
  refine quiet_ext ?_; apply Exists.intro; refine ⟨fun w9 hC => ?_, ?_⟩
  · replace zz0 : w9.cell? ⟨w.heap.size, 0, none⟩ = some (.int .i64 a) := (hC.cell (p := ⟨w.heap.size, 0, none⟩) (by simp <;> omega)).trans (by go_simp); replace zz1 : w9.cell? ⟨w.heap.size, 1, none⟩ = some (.int .i64 b) := (hC.cell (p := ⟨w.heap.size, 1, none⟩) (by simp <;> omega)).trans (by go_simp); replace zz2 : w9.cell? ⟨g, 0, none⟩ = some (.int .i64 off) := (hC.cell (p := ⟨g, 0, none⟩) (by simp <;> omega)).trans (by go_simp); go_simp; first | done | exact rfl | exact ⟨rfl, rfl⟩
  simp only [Act.put, List.setIfInBounds_toArray, List.set_cons_succ, List.set_cons_zero]
  refine wpQuiet_nil ?_
  intro w2 hC
  replace gg := bel_call (w := w) (by repeat' (first | (with_reducible exact Below.refl _ _) | (with_reducible assumption) | (with_reducible refine Below.drew ?_) | (with_reducible refine below_drewN ?_ _) | (with_reducible refine bel_alloc ?_ _) | (with_reducible refine Below.setCell ?_ ?_ _) | (with_reducible refine bel_call ?_ (by assumption)) | (simp <;> omega))) hC.below
  clear hC
  go_wp2_with fail
  go_ret
  exact ⟨rfl, gg⟩
set_option maxHeartbeats 1000000 in
theorem rpassed3 (g : Nat) (off la lb a b t : Int) (w : World) (h : Clk w g off la lb) (ht : isWall t = true) (hr : right a b = true) (hlt : a < t) :
    Calls Try.prog 29 #[.pointer (some ⟨g, 0, none⟩), .agg #[.int .i64 a, .int .i64 b], .int .i64 t] w (Ret (.bool (decide (off < t - a))) w) := by
  have hl : decide (a < t) = true := by simp; omega
  have hbd := right_iff.1 hr
  have hbt : 0 ≤ t ∧ t ≤ 9007199254740991 := by simpa [isWall] using ht
  have hw := IntWalk.i64_in (t - a) (by omega)
  obtain ⟨lt, c0, _, _, _, _⟩ := h
  go_enter Try.func29, Try.ntmps29
  go_wp2_with fail
  refine (rIsWall_any _ _).mono ?_; rintro e w' ⟨rfl, rfl⟩
  -- boxes
  go_wp2_with fail
  refine (rRight_any a b _).mono ?_
  rintro e w1 ⟨rfl, hb⟩
  replace kb0_0 : w1.cell? ⟨w.heap.size, 0, none⟩ = some (.int .i64 a) := (hb.cell (p := ⟨w.heap.size, 0, none⟩) (by simp <;> omega)).trans (by go_simp)
  replace kb0_1 : w1.cell? ⟨w.heap.size, 1, none⟩ = some (.int .i64 b) := (hb.cell (p := ⟨w.heap.size, 1, none⟩) (by simp <;> omega)).trans (by go_simp)
  replace kb1_0 : w1.cell? ⟨g, 0, none⟩ = some (.int .i64 off) := (hb.cell (p := ⟨g, 0, none⟩) (by simp <;> omega)).trans (by go_simp)
  have zb1 := hb.size; (try simp at zb1)
  replace zz : w.heap.size ≤ w1.heap.size := by omega
  replace ybw_heap_size : w.heap.size < w1.heap.size := by omega
  replace ybg : g < w1.heap.size := by omega
  replace gg : Below w.heap.size w w1 := (by repeat' (first | (with_reducible exact Below.refl _ _) | (with_reducible assumption) | (with_reducible refine Below.drew ?_) | (with_reducible refine below_drewN ?_ _) | (with_reducible refine bel_alloc ?_ _) | (with_reducible refine Below.setCell ?_ ?_ _) | (with_reducible refine bel_call ?_ (by assumption)) | (simp <;> omega)))
  clear hb
  go_wp2_with fail
  refine wp_region_below (by kernel_rfl) (by kernel_rfl) ?_
  refine quiet_ext ?_; apply Exists.intro; refine ⟨fun w9 hC => ?_, ?_⟩
  · replace zz0 : w9.cell? ⟨w.heap.size, 0, none⟩ = some (.int .i64 a) := (hC.cell (p := ⟨w.heap.size, 0, none⟩) (by simp <;> omega)).trans (by go_simp); replace zz1 : w9.cell? ⟨w.heap.size, 1, none⟩ = some (.int .i64 b) := (hC.cell (p := ⟨w.heap.size, 1, none⟩) (by simp <;> omega)).trans (by go_simp); replace zz2 : w9.cell? ⟨g, 0, none⟩ = some (.int .i64 off) := (hC.cell (p := ⟨g, 0, none⟩) (by simp <;> omega)).trans (by go_simp); go_simp; first | done | exact rfl | exact ⟨rfl, rfl⟩
  simp only [Act.put, List.setIfInBounds_toArray, List.set_cons_succ, List.set_cons_zero]
  refine quiet_ext ?_; apply Exists.intro; refine ⟨fun w9 hC => ?_, ?_⟩
  · replace zz0 : w9.cell? ⟨w.heap.size, 0, none⟩ = some (.int .i64 a) := (hC.cell (p := ⟨w.heap.size, 0, none⟩) (by simp <;> omega)).trans (by go_simp); replace zz1 : w9.cell? ⟨w.heap.size, 1, none⟩ = some (.int .i64 b) := (hC.cell (p := ⟨w.heap.size, 1, none⟩) (by simp <;> omega)).trans (by go_simp); replace zz2 : w9.cell? ⟨g, 0, none⟩ = some (.int .i64 off) := (hC.cell (p := ⟨g, 0, none⟩) (by simp <;> omega)).trans (by go_simp); go_simp; first | done | exact rfl | exact ⟨rfl, rfl⟩
  simp only [Act.put, List.setIfInBounds_toArray, List.set_cons_succ, List.set_cons_zero]
  refine quiet_ext ?_; apply Exists.intro; refine ⟨fun w9 hC => ?_, ?_⟩
  · replace zz0 : w9.cell? ⟨w.heap.size, 0, none⟩ = some (.int .i64 a) := (hC.cell (p := ⟨w.heap.size, 0, none⟩) (by simp <;> omega)).trans (by go_simp); replace zz1 : w9.cell? ⟨w.heap.size, 1, none⟩ = some (.int .i64 b) := (hC.cell (p := ⟨w.heap.size, 1, none⟩) (by simp <;> omega)).trans (by go_simp); replace zz2 : w9.cell? ⟨g, 0, none⟩ = some (.int .i64 off) := (hC.cell (p := ⟨g, 0, none⟩) (by simp <;> omega)).trans (by go_simp); go_simp; first | done | exact rfl | exact ⟨rfl, rfl⟩
  simp only [Act.put, List.setIfInBounds_toArray, List.set_cons_succ, List.set_cons_zero]
  refine quiet_ext ?_; apply Exists.intro; refine ⟨fun w9 hC => ?_, ?_⟩
  · replace zz0 : w9.cell? ⟨w.heap.size, 0, none⟩ = some (.int .i64 a) := (hC.cell (p := ⟨w.heap.size, 0, none⟩) (by simp <;> omega)).trans (by go_simp); replace zz1 : w9.cell? ⟨w.heap.size, 1, none⟩ = some (.int .i64 b) := (hC.cell (p := ⟨w.heap.size, 1, none⟩) (by simp <;> omega)).trans (by go_simp); replace zz2 : w9.cell? ⟨g, 0, none⟩ = some (.int .i64 off) := (hC.cell (p := ⟨g, 0, none⟩) (by simp <;> omega)).trans (by go_simp); go_simp; first | done | exact rfl | exact ⟨rfl, rfl⟩
  simp only [Act.put, List.setIfInBounds_toArray, List.set_cons_succ, List.set_cons_zero]
  refine quiet_ext ?_; apply Exists.intro; refine ⟨fun w9 hC => ?_, ?_⟩
  · replace zz0 : w9.cell? ⟨w.heap.size, 0, none⟩ = some (.int .i64 a) := (hC.cell (p := ⟨w.heap.size, 0, none⟩) (by simp <;> omega)).trans (by go_simp); replace zz1 : w9.cell? ⟨w.heap.size, 1, none⟩ = some (.int .i64 b) := (hC.cell (p := ⟨w.heap.size, 1, none⟩) (by simp <;> omega)).trans (by go_simp); replace zz2 : w9.cell? ⟨g, 0, none⟩ = some (.int .i64 off) := (hC.cell (p := ⟨g, 0, none⟩) (by simp <;> omega)).trans (by go_simp); go_simp; first | done | exact rfl | exact ⟨rfl, rfl⟩
  simp only [Act.put, List.setIfInBounds_toArray, List.set_cons_succ, List.set_cons_zero]
  refine quiet_ext ?_; apply Exists.intro; refine ⟨fun w9 hC => ?_, ?_⟩
  · replace zz0 : w9.cell? ⟨w.heap.size, 0, none⟩ = some (.int .i64 a) := (hC.cell (p := ⟨w.heap.size, 0, none⟩) (by simp <;> omega)).trans (by go_simp); replace zz1 : w9.cell? ⟨w.heap.size, 1, none⟩ = some (.int .i64 b) := (hC.cell (p := ⟨w.heap.size, 1, none⟩) (by simp <;> omega)).trans (by go_simp); replace zz2 : w9.cell? ⟨g, 0, none⟩ = some (.int .i64 off) := (hC.cell (p := ⟨g, 0, none⟩) (by simp <;> omega)).trans (by go_simp); go_simp; first | done | exact rfl | exact ⟨rfl, rfl⟩
  simp only [Act.put, List.setIfInBounds_toArray, List.set_cons_succ, List.set_cons_zero]
  refine quiet_ext ?_; apply Exists.intro; refine ⟨fun w9 hC => ?_, ?_⟩
  · replace zz0 : w9.cell? ⟨w.heap.size, 0, none⟩ = some (.int .i64 a) := (hC.cell (p := ⟨w.heap.size, 0, none⟩) (by simp <;> omega)).trans (by go_simp); replace zz1 : w9.cell? ⟨w.heap.size, 1, none⟩ = some (.int .i64 b) := (hC.cell (p := ⟨w.heap.size, 1, none⟩) (by simp <;> omega)).trans (by go_simp); replace zz2 : w9.cell? ⟨g, 0, none⟩ = some (.int .i64 off) := (hC.cell (p := ⟨g, 0, none⟩) (by simp <;> omega)).trans (by go_simp); go_simp; first | done | exact rfl | exact ⟨rfl, rfl⟩
  simp only [Act.put, List.setIfInBounds_toArray, List.set_cons_succ, List.set_cons_zero]
  refine quiet_ext ?_; apply Exists.intro; refine ⟨fun w9 hC => ?_, ?_⟩
  · replace zz0 : w9.cell? ⟨w.heap.size, 0, none⟩ = some (.int .i64 a) := (hC.cell (p := ⟨w.heap.size, 0, none⟩) (by simp <;> omega)).trans (by go_simp); replace zz1 : w9.cell? ⟨w.heap.size, 1, none⟩ = some (.int .i64 b) := (hC.cell (p := ⟨w.heap.size, 1, none⟩) (by simp <;> omega)).trans (by go_simp); replace zz2 : w9.cell? ⟨g, 0, none⟩ = some (.int .i64 off) := (hC.cell (p := ⟨g, 0, none⟩) (by simp <;> omega)).trans (by go_simp); go_simp; first | done | exact rfl | exact ⟨rfl, rfl⟩
  simp only [Act.put, List.setIfInBounds_toArray, List.set_cons_succ, List.set_cons_zero]
  refine quiet_ext ?_; apply Exists.intro; refine ⟨fun w9 hC => ?_, ?_⟩
  · replace zz0 : w9.cell? ⟨w.heap.size, 0, none⟩ = some (.int .i64 a) := (hC.cell (p := ⟨w.heap.size, 0, none⟩) (by simp <;> omega)).trans (by go_simp); replace zz1 : w9.cell? ⟨w.heap.size, 1, none⟩ = some (.int .i64 b) := (hC.cell (p := ⟨w.heap.size, 1, none⟩) (by simp <;> omega)).trans (by go_simp); replace zz2 : w9.cell? ⟨g, 0, none⟩ = some (.int .i64 off) := (hC.cell (p := ⟨g, 0, none⟩) (by simp <;> omega)).trans (by go_simp); go_simp; first | done | exact rfl | exact ⟨rfl, rfl⟩
  simp only [Act.put, List.setIfInBounds_toArray, List.set_cons_succ, List.set_cons_zero]
  refine quiet_ext ?_; apply Exists.intro; refine ⟨fun w9 hC => ?_, ?_⟩
  · replace zz0 : w9.cell? ⟨w.heap.size, 0, none⟩ = some (.int .i64 a) := (hC.cell (p := ⟨w.heap.size, 0, none⟩) (by simp <;> omega)).trans (by go_simp); replace zz1 : w9.cell? ⟨w.heap.size, 1, none⟩ = some (.int .i64 b) := (hC.cell (p := ⟨w.heap.size, 1, none⟩) (by simp <;> omega)).trans (by go_simp); replace zz2 : w9.cell? ⟨g, 0, none⟩ = some (.int .i64 off) := (hC.cell (p := ⟨g, 0, none⟩) (by simp <;> omega)).trans (by go_simp); go_simp; first | done | exact rfl | exact ⟨rfl, rfl⟩
  simp only [Act.put, List.setIfInBounds_toArray, List.set_cons_succ, List.set_cons_zero]
  refine quiet_ext ?_; apply Exists.intro; refine ⟨fun w9 hC => ?_, ?_⟩
  · replace zz0 : w9.cell? ⟨w.heap.size, 0, none⟩ = some (.int .i64 a) := (hC.cell (p := ⟨w.heap.size, 0, none⟩) (by simp <;> omega)).trans (by go_simp); replace zz1 : w9.cell? ⟨w.heap.size, 1, none⟩ = some (.int .i64 b) := (hC.cell (p := ⟨w.heap.size, 1, none⟩) (by simp <;> omega)).trans (by go_simp); replace zz2 : w9.cell? ⟨g, 0, none⟩ = some (.int .i64 off) := (hC.cell (p := ⟨g, 0, none⟩) (by simp <;> omega)).trans (by go_simp); go_simp; first | done | exact rfl | exact ⟨rfl, rfl⟩
  simp only [Act.put, List.setIfInBounds_toArray, List.set_cons_succ, List.set_cons_zero]
  refine quiet_ext ?_; apply Exists.intro; refine ⟨fun w9 hC => ?_, ?_⟩
  · replace zz0 : w9.cell? ⟨w.heap.size, 0, none⟩ = some (.int .i64 a) := (hC.cell (p := ⟨w.heap.size, 0, none⟩) (by simp <;> omega)).trans (by go_simp); replace zz1 : w9.cell? ⟨w.heap.size, 1, none⟩ = some (.int .i64 b) := (hC.cell (p := ⟨w.heap.size, 1, none⟩) (by simp <;> omega)).trans (by go_simp); replace zz2 : w9.cell? ⟨g, 0, none⟩ = some (.int .i64 off) := (hC.cell (p := ⟨g, 0, none⟩) (by simp <;> omega)).trans (by go_simp); go_simp; first | done | exact rfl | exact ⟨rfl, rfl⟩
  simp only [Act.put, List.setIfInBounds_toArray, List.set_cons_succ, List.set_cons_zero]
  refine quiet_ext ?_; apply Exists.intro; refine ⟨fun w9 hC => ?_, ?_⟩
  · replace zz0 : w9.cell? ⟨w.heap.size, 0, none⟩ = some (.int .i64 a) := (hC.cell (p := ⟨w.heap.size, 0, none⟩) (by simp <;> omega)).trans (by go_simp); replace zz1 : w9.cell? ⟨w.heap.size, 1, none⟩ = some (.int .i64 b) := (hC.cell (p := ⟨w.heap.size, 1, none⟩) (by simp <;> omega)).trans (by go_simp); replace zz2 : w9.cell? ⟨g, 0, none⟩ = some (.int .i64 off) := (hC.cell (p := ⟨g, 0, none⟩) (by simp <;> omega)).trans (by go_simp); go_simp; first | done | exact rfl | exact ⟨rfl, rfl⟩
  simp only [Act.put, List.setIfInBounds_toArray, List.set_cons_succ, List.set_cons_zero]
  refine quiet_ext ?_; apply Exists.intro; refine ⟨fun w9 hC => ?_, ?_⟩
  · replace zz0 : w9.cell? ⟨w.heap.size, 0, none⟩ = some (.int .i64 a) := (hC.cell (p := ⟨w.heap.size, 0, none⟩) (by simp <;> omega)).trans (by go_simp); replace zz1 : w9.cell? ⟨w.heap.size, 1, none⟩ = some (.int .i64 b) := (hC.cell (p := ⟨w.heap.size, 1, none⟩) (by simp <;> omega)).trans (by go_simp); replace zz2 : w9.cell? ⟨g, 0, none⟩ = some (.int .i64 off) := (hC.cell (p := ⟨g, 0, none⟩) (by simp <;> omega)).trans (by go_simp); go_simp; first | done | exact rfl | exact ⟨rfl, rfl⟩
  simp only [Act.put, List.setIfInBounds_toArray, List.set_cons_succ, List.set_cons_zero]
  refine quiet_ext ?_; apply Exists.intro; refine ⟨fun w9 hC => ?_, ?_⟩
  · replace zz0 : w9.cell? ⟨w.heap.size, 0, none⟩ = some (.int .i64 a) := (hC.cell (p := ⟨w.heap.size, 0, none⟩) (by simp <;> omega)).trans (by go_simp); replace zz1 : w9.cell? ⟨w.heap.size, 1, none⟩ = some (.int .i64 b) := (hC.cell (p := ⟨w.heap.size, 1, none⟩) (by simp <;> omega)).trans (by go_simp); replace zz2 : w9.cell? ⟨g, 0, none⟩ = some (.int .i64 off) := (hC.cell (p := ⟨g, 0, none⟩) (by simp <;> omega)).trans (by go_simp); go_simp; first | done | exact rfl | exact ⟨rfl, rfl⟩
  simp only [Act.put, List.setIfInBounds_toArray, List.set_cons_succ, List.set_cons_zero]
  refine quiet_ext ?_; apply Exists.intro; refine ⟨fun w9 hC => ?_, ?_⟩
  · replace zz0 : w9.cell? ⟨w.heap.size, 0, none⟩ = some (.int .i64 a) := (hC.cell (p := ⟨w.heap.size, 0, none⟩) (by simp <;> omega)).trans (by go_simp); replace zz1 : w9.cell? ⟨w.heap.size, 1, none⟩ = some (.int .i64 b) := (hC.cell (p := ⟨w.heap.size, 1, none⟩) (by simp <;> omega)).trans (by go_simp); replace zz2 : w9.cell? ⟨g, 0, none⟩ = some (.int .i64 off) := (hC.cell (p := ⟨g, 0, none⟩) (by simp <;> omega)).trans (by go_simp); go_simp; first | done | exact rfl | exact ⟨rfl, rfl⟩
  simp only [Act.put, List.setIfInBounds_toArray, List.set_cons_succ, List.set_cons_zero]
  refine quiet_ext ?_; apply Exists.intro; refine ⟨fun w9 hC => ?_, ?_⟩
  · replace zz0 : w9.cell? ⟨w.heap.size, 0, none⟩ = some (.int .i64 a) := (hC.cell (p := ⟨w.heap.size, 0, none⟩) (by simp <;> omega)).trans (by go_simp); replace zz1 : w9.cell? ⟨w.heap.size, 1, none⟩ = some (.int .i64 b) := (hC.cell (p := ⟨w.heap.size, 1, none⟩) (by simp <;> omega)).trans (by go_simp); replace zz2 : w9.cell? ⟨g, 0, none⟩ = some (.int .i64 off) := (hC.cell (p := ⟨g, 0, none⟩) (by simp <;> omega)).trans (by go_simp); go_simp; first | done | exact rfl | exact ⟨rfl, rfl⟩
  simp only [Act.put, List.setIfInBounds_toArray, List.set_cons_succ, List.set_cons_zero]
  refine quiet_ext ?_; apply Exists.intro; refine ⟨fun w9 hC => ?_, ?_⟩
  · replace zz0 : w9.cell? ⟨w.heap.size, 0, none⟩ = some (.int .i64 a) := (hC.cell (p := ⟨w.heap.size, 0, none⟩) (by simp <;> omega)).trans (by go_simp); replace zz1 : w9.cell? ⟨w.heap.size, 1, none⟩ = some (.int .i64 b) := (hC.cell (p := ⟨w.heap.size, 1, none⟩) (by simp <;> omega)).trans (by go_simp); replace zz2 : w9.cell? ⟨g, 0, none⟩ = some (.int .i64 off) := (hC.cell (p := ⟨g, 0, none⟩) (by simp <;> omega)).trans (by go_simp); go_simp; first | done | exact rfl | exact ⟨rfl, rfl⟩
  simp only [Act.put, List.setIfInBounds_toArray, List.set_cons_succ, List.set_cons_zero]
  refine quiet_ext ?_; apply Exists.intro; refine ⟨fun w9 hC => ?_, ?_⟩
  · replace zz0 : w9.cell? ⟨w.heap.size, 0, none⟩ = some (.int .i64 a) := (hC.cell (p := ⟨w.heap.size, 0, none⟩) (by simp <;> omega)).trans (by go_simp); replace zz1 : w9.cell? ⟨w.heap.size, 1, none⟩ = some (.int .i64 b) := (hC.cell (p := ⟨w.heap.size, 1, none⟩) (by simp <;> omega)).trans (by go_simp); replace zz2 : w9.cell? ⟨g, 0, none⟩ = some (.int .i64 off) := (hC.cell (p := ⟨g, 0, none⟩) (by simp <;> omega)).trans (by go_simp); go_simp; first | done | exact rfl | exact ⟨rfl, rfl⟩
  simp only [Act.put, List.setIfInBounds_toArray, List.set_cons_succ, List.set_cons_zero]
  refine quiet_ext ?_; apply Exists.intro; refine ⟨fun w9 hC => ?_, ?_⟩
  · replace zz0 : w9.cell? ⟨w.heap.size, 0, none⟩ = some (.int .i64 a) := (hC.cell (p := ⟨w.heap.size, 0, none⟩) (by simp <;> omega)).trans (by go_simp); replace zz1 : w9.cell? ⟨w.heap.size, 1, none⟩ = some (.int .i64 b) := (hC.cell (p := ⟨w.heap.size, 1, none⟩) (by simp <;> omega)).trans (by go_simp); replace zz2 : w9.cell? ⟨g, 0, none⟩ = some (.int .i64 off) := (hC.cell (p := ⟨g, 0, none⟩) (by simp <;> omega)).trans (by go_simp); go_simp; first | done | exact rfl | exact ⟨rfl, rfl⟩
  simp only [Act.put, List.setIfInBounds_toArray, List.set_cons_succ, List.set_cons_zero]
  refine quiet_ext ?_; apply Exists.intro; refine ⟨fun w9 hC => ?_, ?_⟩
  · replace zz0 : w9.cell? ⟨w.heap.size, 0, none⟩ = some (.int .i64 a) := (hC.cell (p := ⟨w.heap.size, 0, none⟩) (by simp <;> omega)).trans (by go_simp); replace zz1 : w9.cell? ⟨w.heap.size, 1, none⟩ = some (.int .i64 b) := (hC.cell (p := ⟨w.heap.size, 1, none⟩) (by simp <;> omega)).trans (by go_simp); replace zz2 : w9.cell? ⟨g, 0, none⟩ = some (.int .i64 off) := (hC.cell (p := ⟨g, 0, none⟩) (by simp <;> omega)).trans (by go_simp); go_simp; first | done | exact rfl | exact ⟨rfl, rfl⟩
  simp only [Act.put, List.setIfInBounds_toArray, List.set_cons_succ, List.set_cons_zero]
  refine quiet_ext ?_; apply Exists.intro; refine ⟨fun w9 hC => ?_, ?_⟩
  · replace zz0 : w9.cell? ⟨w.heap.size, 0, none⟩ = some (.int .i64 a) := (hC.cell (p := ⟨w.heap.size, 0, none⟩) (by simp <;> omega)).trans (by go_simp); replace zz1 : w9.cell? ⟨w.heap.size, 1, none⟩ = some (.int .i64 b) := (hC.cell (p := ⟨w.heap.size, 1, none⟩) (by simp <;> omega)).trans (by go_simp); replace zz2 : w9.cell? ⟨g, 0, none⟩ = some (.int .i64 off) := (hC.cell (p := ⟨g, 0, none⟩) (by simp <;> omega)).trans (by go_simp); go_simp; first | done | exact rfl | exact ⟨rfl, rfl⟩
  simp only [Act.put, List.setIfInBounds_toArray, List.set_cons_succ, List.set_cons_zero]
  refine wpQuiet_nil ?_
  intro w2 hC
  replace gg := bel_call (w := w) (by repeat' (first | (with_reducible exact Below.refl _ _) | (with_reducible assumption) | (with_reducible refine Below.drew ?_) | (with_reducible refine below_drewN ?_ _) | (with_reducible refine bel_alloc ?_ _) | (with_reducible refine Below.setCell ?_ ?_ _) | (with_reducible refine bel_call ?_ (by assumption)) | (simp <;> omega))) hC.below
  clear hC
  go_wp2_with fail
  go_ret
  exact ⟨rfl, gg⟩
theorem rpassed_any (g : Nat) (off la lb a b t : Int) (w : World) (h : Clk w g off la lb) (ho : isWall off = true) :
    Calls Try.prog 29 #[.pointer (some ⟨g, 0, none⟩), .agg #[.int .i64 a, .int .i64 b], .int .i64 t] w (Ret (.bool (passed off a b t)) w) := by
  have hbo : 0 ≤ off ∧ off ≤ 9007199254740991 := by simpa [isWall] using ho
  cases ht : isWall t
  · have e : passed off a b t = false := by simp [passed, ht]
    rw [e]; exact rpassed0 g off la lb a b t w h ht
  · cases hr : right a b
    · have e : passed off a b t = false := by simp [passed, hr]
      rw [e]; exact rpassed1 g off la lb a b t w h ht hr
    · have e : passed off a b t = decide (off < t - a) := by simp [passed, hr, ht]
      by_cases hlt : a < t
      · rw [e]; exact rpassed3 g off la lb a b t w h ht hr hlt
      · have e2 : decide (off < t - a) = false := by simp; omega
        rw [e, e2]; exact rpassed2 g off la lb a b t w h ht hr (by omega)
end Hlc
end Go.Proofs.Ytogooghigeemaaa
