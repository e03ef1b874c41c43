/- hlc's clock and the document's. -/
import Derived.Test.YtogooghigeemaaaHlcLaws
import Derived.Test.YtogooghigeemaaaQuiet
namespace Go.Proofs.Ytogooghigeemaaa
open Go.RowKit
namespace Hlc
attribute [local irreducible] wpQuiet
/-- has a stamp passed? -/
def passed (off a b at_ : Int) : Bool := isWall at_ && right a b && decide (off < at_ - a)
/-- a clock in memory: its offset, its last stamp -/
structure Clk (w : World) (g : Nat) (off la lb : Int) : Prop where
  lt : g < w.heap.size
  c0 : w.cell? ⟨g, 0, none⟩ = some (.int .i64 off)
  c1 : w.cell? ⟨g, 1, none⟩ = some (.int .i64 la)
  c2 : w.cell? ⟨g, 2, none⟩ = some (.int .i64 lb)
  f1 : w.frozen? ⟨g, 1, none⟩ = false
  f2 : w.frozen? ⟨g, 2, none⟩ = false

set_option maxHeartbeats 1000000 in
theorem passed_yes (g : Nat) (off la lb a b t : Int) (w : World) (h : Clk w g off la lb) (hr : right a b = true) (ht : isWall t = true) (ho : isWall off = true) :
    Calls Try.prog 24 #[.pointer (some ⟨g, 0, none⟩), .agg #[.int .i64 a, .int .i64 b], .int .i64 t] w (Ret (.bool (decide (off < t - a))) w) := by
  have hbd := right_iff.1 hr
  have hbt : 0 ≤ t ∧ t ≤ 9007199254740991 := by simpa [isWall] using ht
  obtain ⟨lt, c0, _, _, _, _⟩ := h
  have hw := IntWalk.i64_in (t - a) (by omega)
  go_enter Try.func24, Try.ntmps24
  go_wp2_with fail
  refine wp_region_below (by kernel_rfl) (by kernel_rfl) ?_
  refine quiet_ext ?_; apply Exists.intro; refine ⟨fun w9 hC => ?_, ?_⟩
  · replace zz0 : w9.cell? ⟨w.heap.size, 0, none⟩ = some (.int .i64 a) := (hC.cell (p := ⟨w.heap.size, 0, none⟩) (by simp <;> omega)).trans (by go_simp); replace zz1 : w9.cell? ⟨w.heap.size, 1, none⟩ = some (.int .i64 b) := (hC.cell (p := ⟨w.heap.size, 1, none⟩) (by simp <;> omega)).trans (by go_simp); replace zz2 : w9.cell? ⟨g, 0, none⟩ = some (.int .i64 off) := (hC.cell (p := ⟨g, 0, none⟩) (by simp <;> omega)).trans (by go_simp); go_simp; first | done | exact rfl | exact ⟨rfl, rfl⟩
  simp only [Act.put, List.setIfInBounds_toArray, List.set_cons_succ, List.set_cons_zero]
  refine quiet_ext ?_; apply Exists.intro; refine ⟨fun w9 hC => ?_, ?_⟩
  · replace zz0 : w9.cell? ⟨w.heap.size, 0, none⟩ = some (.int .i64 a) := (hC.cell (p := ⟨w.heap.size, 0, none⟩) (by simp <;> omega)).trans (by go_simp); replace zz1 : w9.cell? ⟨w.heap.size, 1, none⟩ = some (.int .i64 b) := (hC.cell (p := ⟨w.heap.size, 1, none⟩) (by simp <;> omega)).trans (by go_simp); replace zz2 : w9.cell? ⟨g, 0, none⟩ = some (.int .i64 off) := (hC.cell (p := ⟨g, 0, none⟩) (by simp <;> omega)).trans (by go_simp); go_simp; exact (wall_any _ _).mono fun _ _ h => ⟨h.1, h.2 ▸ hC⟩
  simp only [Act.put, List.setIfInBounds_toArray, List.set_cons_succ, List.set_cons_zero]
  refine quiet_ext ?_; apply Exists.intro; refine ⟨fun w9 hC => ?_, ?_⟩
  · replace zz0 : w9.cell? ⟨w.heap.size, 0, none⟩ = some (.int .i64 a) := (hC.cell (p := ⟨w.heap.size, 0, none⟩) (by simp <;> omega)).trans (by go_simp); replace zz1 : w9.cell? ⟨w.heap.size, 1, none⟩ = some (.int .i64 b) := (hC.cell (p := ⟨w.heap.size, 1, none⟩) (by simp <;> omega)).trans (by go_simp); replace zz2 : w9.cell? ⟨g, 0, none⟩ = some (.int .i64 off) := (hC.cell (p := ⟨g, 0, none⟩) (by simp <;> omega)).trans (by go_simp); go_simp; first | done | exact rfl | exact ⟨rfl, rfl⟩
  simp only [Act.put, List.setIfInBounds_toArray, List.set_cons_succ, List.set_cons_zero]
  refine quiet_ext ?_; apply Exists.intro; refine ⟨fun w9 hC => ?_, ?_⟩
  · replace zz0 : w9.cell? ⟨w.heap.size, 0, none⟩ = some (.int .i64 a) := (hC.cell (p := ⟨w.heap.size, 0, none⟩) (by simp <;> omega)).trans (by go_simp); replace zz1 : w9.cell? ⟨w.heap.size, 1, none⟩ = some (.int .i64 b) := (hC.cell (p := ⟨w.heap.size, 1, none⟩) (by simp <;> omega)).trans (by go_simp); replace zz2 : w9.cell? ⟨g, 0, none⟩ = some (.int .i64 off) := (hC.cell (p := ⟨g, 0, none⟩) (by simp <;> omega)).trans (by go_simp); go_simp; first | done | exact rfl | exact ⟨rfl, rfl⟩
  simp only [Act.put, List.setIfInBounds_toArray, List.set_cons_succ, List.set_cons_zero]
  refine quiet_ext ?_; apply Exists.intro; refine ⟨fun w9 hC => ?_, ?_⟩
  · replace zz0 : w9.cell? ⟨w.heap.size, 0, none⟩ = some (.int .i64 a) := (hC.cell (p := ⟨w.heap.size, 0, none⟩) (by simp <;> omega)).trans (by go_simp); replace zz1 : w9.cell? ⟨w.heap.size, 1, none⟩ = some (.int .i64 b) := (hC.cell (p := ⟨w.heap.size, 1, none⟩) (by simp <;> omega)).trans (by go_simp); replace zz2 : w9.cell? ⟨g, 0, none⟩ = some (.int .i64 off) := (hC.cell (p := ⟨g, 0, none⟩) (by simp <;> omega)).trans (by go_simp); go_simp; exact (right_any a b _).mono fun _ _ h => ⟨h.1, ext_call hC h.2⟩
  simp only [Act.put, List.setIfInBounds_toArray, List.set_cons_succ, List.set_cons_zero]
  refine quiet_ext ?_; apply Exists.intro; refine ⟨fun w9 hC => ?_, ?_⟩
  · replace zz0 : w9.cell? ⟨w.heap.size, 0, none⟩ = some (.int .i64 a) := (hC.cell (p := ⟨w.heap.size, 0, none⟩) (by simp <;> omega)).trans (by go_simp); replace zz1 : w9.cell? ⟨w.heap.size, 1, none⟩ = some (.int .i64 b) := (hC.cell (p := ⟨w.heap.size, 1, none⟩) (by simp <;> omega)).trans (by go_simp); replace zz2 : w9.cell? ⟨g, 0, none⟩ = some (.int .i64 off) := (hC.cell (p := ⟨g, 0, none⟩) (by simp <;> omega)).trans (by go_simp); go_simp; first | done | exact rfl | exact ⟨rfl, rfl⟩
  simp only [Act.put, List.setIfInBounds_toArray, List.set_cons_succ, List.set_cons_zero]
  refine quiet_ext ?_; apply Exists.intro; refine ⟨fun w9 hC => ?_, ?_⟩
  · replace zz0 : w9.cell? ⟨w.heap.size, 0, none⟩ = some (.int .i64 a) := (hC.cell (p := ⟨w.heap.size, 0, none⟩) (by simp <;> omega)).trans (by go_simp); replace zz1 : w9.cell? ⟨w.heap.size, 1, none⟩ = some (.int .i64 b) := (hC.cell (p := ⟨w.heap.size, 1, none⟩) (by simp <;> omega)).trans (by go_simp); replace zz2 : w9.cell? ⟨g, 0, none⟩ = some (.int .i64 off) := (hC.cell (p := ⟨g, 0, none⟩) (by simp <;> omega)).trans (by go_simp); go_simp; first | done | exact rfl | exact ⟨rfl, rfl⟩
  simp only [Act.put, List.setIfInBounds_toArray, List.set_cons_succ, List.set_cons_zero]
  refine quiet_ext ?_; apply Exists.intro; refine ⟨fun w9 hC => ?_, ?_⟩
  · replace zz0 : w9.cell? ⟨w.heap.size, 0, none⟩ = some (.int .i64 a) := (hC.cell (p := ⟨w.heap.size, 0, none⟩) (by simp <;> omega)).trans (by go_simp); replace zz1 : w9.cell? ⟨w.heap.size, 1, none⟩ = some (.int .i64 b) := (hC.cell (p := ⟨w.heap.size, 1, none⟩) (by simp <;> omega)).trans (by go_simp); replace zz2 : w9.cell? ⟨g, 0, none⟩ = some (.int .i64 off) := (hC.cell (p := ⟨g, 0, none⟩) (by simp <;> omega)).trans (by go_simp); go_simp; first | done | exact rfl | exact ⟨rfl, rfl⟩
  simp only [Act.put, List.setIfInBounds_toArray, List.set_cons_succ, List.set_cons_zero]
  refine quiet_ext ?_; apply Exists.intro; refine ⟨fun w9 hC => ?_, ?_⟩
  · replace zz0 : w9.cell? ⟨w.heap.size, 0, none⟩ = some (.int .i64 a) := (hC.cell (p := ⟨w.heap.size, 0, none⟩) (by simp <;> omega)).trans (by go_simp); replace zz1 : w9.cell? ⟨w.heap.size, 1, none⟩ = some (.int .i64 b) := (hC.cell (p := ⟨w.heap.size, 1, none⟩) (by simp <;> omega)).trans (by go_simp); replace zz2 : w9.cell? ⟨g, 0, none⟩ = some (.int .i64 off) := (hC.cell (p := ⟨g, 0, none⟩) (by simp <;> omega)).trans (by go_simp); go_simp; first | done | exact rfl | exact ⟨rfl, rfl⟩
  simp only [Act.put, List.setIfInBounds_toArray, List.set_cons_succ, List.set_cons_zero]
  refine quiet_ext ?_; apply Exists.intro; refine ⟨fun w9 hC => ?_, ?_⟩
  · replace zz0 : w9.cell? ⟨w.heap.size, 0, none⟩ = some (.int .i64 a) := (hC.cell (p := ⟨w.heap.size, 0, none⟩) (by simp <;> omega)).trans (by go_simp); replace zz1 : w9.cell? ⟨w.heap.size, 1, none⟩ = some (.int .i64 b) := (hC.cell (p := ⟨w.heap.size, 1, none⟩) (by simp <;> omega)).trans (by go_simp); replace zz2 : w9.cell? ⟨g, 0, none⟩ = some (.int .i64 off) := (hC.cell (p := ⟨g, 0, none⟩) (by simp <;> omega)).trans (by go_simp); go_simp; first | done | exact rfl | exact ⟨rfl, rfl⟩
  simp only [Act.put, List.setIfInBounds_toArray, List.set_cons_succ, List.set_cons_zero]
  refine quiet_ext ?_; apply Exists.intro; refine ⟨fun w9 hC => ?_, ?_⟩
  · replace zz0 : w9.cell? ⟨w.heap.size, 0, none⟩ = some (.int .i64 a) := (hC.cell (p := ⟨w.heap.size, 0, none⟩) (by simp <;> omega)).trans (by go_simp); replace zz1 : w9.cell? ⟨w.heap.size, 1, none⟩ = some (.int .i64 b) := (hC.cell (p := ⟨w.heap.size, 1, none⟩) (by simp <;> omega)).trans (by go_simp); replace zz2 : w9.cell? ⟨g, 0, none⟩ = some (.int .i64 off) := (hC.cell (p := ⟨g, 0, none⟩) (by simp <;> omega)).trans (by go_simp); go_simp; first | done | exact rfl | exact ⟨rfl, rfl⟩
  simp only [Act.put, List.setIfInBounds_toArray, List.set_cons_succ, List.set_cons_zero]
  refine quiet_ext ?_; apply Exists.intro; refine ⟨fun w9 hC => ?_, ?_⟩
  · replace zz0 : w9.cell? ⟨w.heap.size, 0, none⟩ = some (.int .i64 a) := (hC.cell (p := ⟨w.heap.size, 0, none⟩) (by simp <;> omega)).trans (by go_simp); replace zz1 : w9.cell? ⟨w.heap.size, 1, none⟩ = some (.int .i64 b) := (hC.cell (p := ⟨w.heap.size, 1, none⟩) (by simp <;> omega)).trans (by go_simp); replace zz2 : w9.cell? ⟨g, 0, none⟩ = some (.int .i64 off) := (hC.cell (p := ⟨g, 0, none⟩) (by simp <;> omega)).trans (by go_simp); go_simp; first | done | exact rfl | exact ⟨rfl, rfl⟩
  simp only [Act.put, List.setIfInBounds_toArray, List.set_cons_succ, List.set_cons_zero]
  refine quiet_ext ?_; apply Exists.intro; refine ⟨fun w9 hC => ?_, ?_⟩
  · replace zz0 : w9.cell? ⟨w.heap.size, 0, none⟩ = some (.int .i64 a) := (hC.cell (p := ⟨w.heap.size, 0, none⟩) (by simp <;> omega)).trans (by go_simp); replace zz1 : w9.cell? ⟨w.heap.size, 1, none⟩ = some (.int .i64 b) := (hC.cell (p := ⟨w.heap.size, 1, none⟩) (by simp <;> omega)).trans (by go_simp); replace zz2 : w9.cell? ⟨g, 0, none⟩ = some (.int .i64 off) := (hC.cell (p := ⟨g, 0, none⟩) (by simp <;> omega)).trans (by go_simp); go_simp; first | done | exact rfl | exact ⟨rfl, rfl⟩
  simp only [Act.put, List.setIfInBounds_toArray, List.set_cons_succ, List.set_cons_zero]
  refine quiet_ext ?_; apply Exists.intro; refine ⟨fun w9 hC => ?_, ?_⟩
  · replace zz0 : w9.cell? ⟨w.heap.size, 0, none⟩ = some (.int .i64 a) := (hC.cell (p := ⟨w.heap.size, 0, none⟩) (by simp <;> omega)).trans (by go_simp); replace zz1 : w9.cell? ⟨w.heap.size, 1, none⟩ = some (.int .i64 b) := (hC.cell (p := ⟨w.heap.size, 1, none⟩) (by simp <;> omega)).trans (by go_simp); replace zz2 : w9.cell? ⟨g, 0, none⟩ = some (.int .i64 off) := (hC.cell (p := ⟨g, 0, none⟩) (by simp <;> omega)).trans (by go_simp); go_simp; first | done | exact rfl | exact ⟨rfl, rfl⟩
  simp only [Act.put, List.setIfInBounds_toArray, List.set_cons_succ, List.set_cons_zero]
  refine quiet_ext ?_; apply Exists.intro; refine ⟨fun w9 hC => ?_, ?_⟩
  · replace zz0 : w9.cell? ⟨w.heap.size, 0, none⟩ = some (.int .i64 a) := (hC.cell (p := ⟨w.heap.size, 0, none⟩) (by simp <;> omega)).trans (by go_simp); replace zz1 : w9.cell? ⟨w.heap.size, 1, none⟩ = some (.int .i64 b) := (hC.cell (p := ⟨w.heap.size, 1, none⟩) (by simp <;> omega)).trans (by go_simp); replace zz2 : w9.cell? ⟨g, 0, none⟩ = some (.int .i64 off) := (hC.cell (p := ⟨g, 0, none⟩) (by simp <;> omega)).trans (by go_simp); go_simp; first | done | exact rfl | exact ⟨rfl, rfl⟩
  simp only [Act.put, List.setIfInBounds_toArray, List.set_cons_succ, List.set_cons_zero]
  refine quiet_ext ?_; apply Exists.intro; refine ⟨fun w9 hC => ?_, ?_⟩
  · replace zz0 : w9.cell? ⟨w.heap.size, 0, none⟩ = some (.int .i64 a) := (hC.cell (p := ⟨w.heap.size, 0, none⟩) (by simp <;> omega)).trans (by go_simp); replace zz1 : w9.cell? ⟨w.heap.size, 1, none⟩ = some (.int .i64 b) := (hC.cell (p := ⟨w.heap.size, 1, none⟩) (by simp <;> omega)).trans (by go_simp); replace zz2 : w9.cell? ⟨g, 0, none⟩ = some (.int .i64 off) := (hC.cell (p := ⟨g, 0, none⟩) (by simp <;> omega)).trans (by go_simp); go_simp; first | done | exact rfl | exact ⟨rfl, rfl⟩
  simp only [Act.put, List.setIfInBounds_toArray, List.set_cons_succ, List.set_cons_zero]
  refine quiet_ext ?_; apply Exists.intro; refine ⟨fun w9 hC => ?_, ?_⟩
  · replace zz0 : w9.cell? ⟨w.heap.size, 0, none⟩ = some (.int .i64 a) := (hC.cell (p := ⟨w.heap.size, 0, none⟩) (by simp <;> omega)).trans (by go_simp); replace zz1 : w9.cell? ⟨w.heap.size, 1, none⟩ = some (.int .i64 b) := (hC.cell (p := ⟨w.heap.size, 1, none⟩) (by simp <;> omega)).trans (by go_simp); replace zz2 : w9.cell? ⟨g, 0, none⟩ = some (.int .i64 off) := (hC.cell (p := ⟨g, 0, none⟩) (by simp <;> omega)).trans (by go_simp); go_simp; first | done | exact rfl | exact ⟨rfl, rfl⟩
  simp only [Act.put, List.setIfInBounds_toArray, List.set_cons_succ, List.set_cons_zero]
  refine quiet_ext ?_; apply Exists.intro; refine ⟨fun w9 hC => ?_, ?_⟩
  · replace zz0 : w9.cell? ⟨w.heap.size, 0, none⟩ = some (.int .i64 a) := (hC.cell (p := ⟨w.heap.size, 0, none⟩) (by simp <;> omega)).trans (by go_simp); replace zz1 : w9.cell? ⟨w.heap.size, 1, none⟩ = some (.int .i64 b) := (hC.cell (p := ⟨w.heap.size, 1, none⟩) (by simp <;> omega)).trans (by go_simp); replace zz2 : w9.cell? ⟨g, 0, none⟩ = some (.int .i64 off) := (hC.cell (p := ⟨g, 0, none⟩) (by simp <;> omega)).trans (by go_simp); go_simp; first | done | exact rfl | exact ⟨rfl, rfl⟩
  simp only [Act.put, List.setIfInBounds_toArray, List.set_cons_succ, List.set_cons_zero]
  refine wpQuiet_nil ?_
  intro w2 hC
  have gg := bel_call (w := w) (by repeat' (first | (with_reducible exact Below.refl _ _) | (with_reducible assumption) | (with_reducible refine Below.drew ?_) | (with_reducible refine below_drewN ?_ _) | (with_reducible refine bel_alloc ?_ _) | (with_reducible refine Below.setCell ?_ ?_ _) | (with_reducible refine bel_call ?_ (by assumption)) | (simp <;> omega))) hC.below
  clear hC
  go_wp2_with fail
  go_ret
  exact ⟨rfl, gg⟩
set_option maxHeartbeats 1000000 in
theorem passed_no (g : Nat) (off la lb a b t : Int) (w : World) (h : Clk w g off la lb) (hr : right a b = false) (ht : isWall t = true) :
    Calls Try.prog 24 #[.pointer (some ⟨g, 0, none⟩), .agg #[.int .i64 a, .int .i64 b], .int .i64 t] w (Ret (.bool false) w) := by
  obtain ⟨lt, c0, _, _, _, _⟩ := h
  go_enter Try.func24, Try.ntmps24
  go_wp2_with fail
  refine wp_region_below (by kernel_rfl) (by kernel_rfl) ?_
  refine quiet_ext ?_; apply Exists.intro; refine ⟨fun w9 hC => ?_, ?_⟩
  · replace zz0 : w9.cell? ⟨w.heap.size, 0, none⟩ = some (.int .i64 a) := (hC.cell (p := ⟨w.heap.size, 0, none⟩) (by simp <;> omega)).trans (by go_simp); replace zz1 : w9.cell? ⟨w.heap.size, 1, none⟩ = some (.int .i64 b) := (hC.cell (p := ⟨w.heap.size, 1, none⟩) (by simp <;> omega)).trans (by go_simp); replace zz2 : w9.cell? ⟨g, 0, none⟩ = some (.int .i64 off) := (hC.cell (p := ⟨g, 0, none⟩) (by simp <;> omega)).trans (by go_simp); go_simp; first | done | exact rfl | exact ⟨rfl, rfl⟩
  simp only [Act.put, List.setIfInBounds_toArray, List.set_cons_succ, List.set_cons_zero]
  refine quiet_ext ?_; apply Exists.intro; refine ⟨fun w9 hC => ?_, ?_⟩
  · replace zz0 : w9.cell? ⟨w.heap.size, 0, none⟩ = some (.int .i64 a) := (hC.cell (p := ⟨w.heap.size, 0, none⟩) (by simp <;> omega)).trans (by go_simp); replace zz1 : w9.cell? ⟨w.heap.size, 1, none⟩ = some (.int .i64 b) := (hC.cell (p := ⟨w.heap.size, 1, none⟩) (by simp <;> omega)).trans (by go_simp); replace zz2 : w9.cell? ⟨g, 0, none⟩ = some (.int .i64 off) := (hC.cell (p := ⟨g, 0, none⟩) (by simp <;> omega)).trans (by go_simp); go_simp; exact (wall_any _ _).mono fun _ _ h => ⟨h.1, h.2 ▸ hC⟩
  simp only [Act.put, List.setIfInBounds_toArray, List.set_cons_succ, List.set_cons_zero]
  refine quiet_ext ?_; apply Exists.intro; refine ⟨fun w9 hC => ?_, ?_⟩
  · replace zz0 : w9.cell? ⟨w.heap.size, 0, none⟩ = some (.int .i64 a) := (hC.cell (p := ⟨w.heap.size, 0, none⟩) (by simp <;> omega)).trans (by go_simp); replace zz1 : w9.cell? ⟨w.heap.size, 1, none⟩ = some (.int .i64 b) := (hC.cell (p := ⟨w.heap.size, 1, none⟩) (by simp <;> omega)).trans (by go_simp); replace zz2 : w9.cell? ⟨g, 0, none⟩ = some (.int .i64 off) := (hC.cell (p := ⟨g, 0, none⟩) (by simp <;> omega)).trans (by go_simp); go_simp; first | done | exact rfl | exact ⟨rfl, rfl⟩
  simp only [Act.put, List.setIfInBounds_toArray, List.set_cons_succ, List.set_cons_zero]
  refine quiet_ext ?_; apply Exists.intro; refine ⟨fun w9 hC => ?_, ?_⟩
  · replace zz0 : w9.cell? ⟨w.heap.size, 0, none⟩ = some (.int .i64 a) := (hC.cell (p := ⟨w.heap.size, 0, none⟩) (by simp <;> omega)).trans (by go_simp); replace zz1 : w9.cell? ⟨w.heap.size, 1, none⟩ = some (.int .i64 b) := (hC.cell (p := ⟨w.heap.size, 1, none⟩) (by simp <;> omega)).trans (by go_simp); replace zz2 : w9.cell? ⟨g, 0, none⟩ = some (.int .i64 off) := (hC.cell (p := ⟨g, 0, none⟩) (by simp <;> omega)).trans (by go_simp); go_simp; first | done | exact rfl | exact ⟨rfl, rfl⟩
  simp only [Act.put, List.setIfInBounds_toArray, List.set_cons_succ, List.set_cons_zero]
  refine quiet_ext ?_; apply Exists.intro; refine ⟨fun w9 hC => ?_, ?_⟩
  · replace zz0 : w9.cell? ⟨w.heap.size, 0, none⟩ = some (.int .i64 a) := (hC.cell (p := ⟨w.heap.size, 0, none⟩) (by simp <;> omega)).trans (by go_simp); replace zz1 : w9.cell? ⟨w.heap.size, 1, none⟩ = some (.int .i64 b) := (hC.cell (p := ⟨w.heap.size, 1, none⟩) (by simp <;> omega)).trans (by go_simp); replace zz2 : w9.cell? ⟨g, 0, none⟩ = some (.int .i64 off) := (hC.cell (p := ⟨g, 0, none⟩) (by simp <;> omega)).trans (by go_simp); go_simp; exact (right_any a b _).mono fun _ _ h => ⟨h.1, ext_call hC h.2⟩
  simp only [Act.put, List.setIfInBounds_toArray, List.set_cons_succ, List.set_cons_zero]
  refine quiet_ext ?_; apply Exists.intro; refine ⟨fun w9 hC => ?_, ?_⟩
  · replace zz0 : w9.cell? ⟨w.heap.size, 0, none⟩ = some (.int .i64 a) := (hC.cell (p := ⟨w.heap.size, 0, none⟩) (by simp <;> omega)).trans (by go_simp); replace zz1 : w9.cell? ⟨w.heap.size, 1, none⟩ = some (.int .i64 b) := (hC.cell (p := ⟨w.heap.size, 1, none⟩) (by simp <;> omega)).trans (by go_simp); replace zz2 : w9.cell? ⟨g, 0, none⟩ = some (.int .i64 off) := (hC.cell (p := ⟨g, 0, none⟩) (by simp <;> omega)).trans (by go_simp); go_simp; first | done | exact rfl | exact ⟨rfl, rfl⟩
  simp only [Act.put, List.setIfInBounds_toArray, List.set_cons_succ, List.set_cons_zero]
  refine quiet_ext ?_; apply Exists.intro; refine ⟨fun w9 hC => ?_, ?_⟩
  · replace zz0 : w9.cell? ⟨w.heap.size, 0, none⟩ = some (.int .i64 a) := (hC.cell (p := ⟨w.heap.size, 0, none⟩) (by simp <;> omega)).trans (by go_simp); replace zz1 : w9.cell? ⟨w.heap.size, 1, none⟩ = some (.int .i64 b) := (hC.cell (p := ⟨w.heap.size, 1, none⟩) (by simp <;> omega)).trans (by go_simp); replace zz2 : w9.cell? ⟨g, 0, none⟩ = some (.int .i64 off) := (hC.cell (p := ⟨g, 0, none⟩) (by simp <;> omega)).trans (by go_simp); go_simp; first | done | exact rfl | exact ⟨rfl, rfl⟩
  simp only [Act.put, List.setIfInBounds_toArray, List.set_cons_succ, List.set_cons_zero]
  refine quiet_ext ?_; apply Exists.intro; refine ⟨fun w9 hC => ?_, ?_⟩
  · replace zz0 : w9.cell? ⟨w.heap.size, 0, none⟩ = some (.int .i64 a) := (hC.cell (p := ⟨w.heap.size, 0, none⟩) (by simp <;> omega)).trans (by go_simp); replace zz1 : w9.cell? ⟨w.heap.size, 1, none⟩ = some (.int .i64 b) := (hC.cell (p := ⟨w.heap.size, 1, none⟩) (by simp <;> omega)).trans (by go_simp); replace zz2 : w9.cell? ⟨g, 0, none⟩ = some (.int .i64 off) := (hC.cell (p := ⟨g, 0, none⟩) (by simp <;> omega)).trans (by go_simp); go_simp; first | done | exact rfl | exact ⟨rfl, rfl⟩
  simp only [Act.put, List.setIfInBounds_toArray, List.set_cons_succ, List.set_cons_zero]
  refine quiet_ext ?_; apply Exists.intro; refine ⟨fun w9 hC => ?_, ?_⟩
  · replace zz0 : w9.cell? ⟨w.heap.size, 0, none⟩ = some (.int .i64 a) := (hC.cell (p := ⟨w.heap.size, 0, none⟩) (by simp <;> omega)).trans (by go_simp); replace zz1 : w9.cell? ⟨w.heap.size, 1, none⟩ = some (.int .i64 b) := (hC.cell (p := ⟨w.heap.size, 1, none⟩) (by simp <;> omega)).trans (by go_simp); replace zz2 : w9.cell? ⟨g, 0, none⟩ = some (.int .i64 off) := (hC.cell (p := ⟨g, 0, none⟩) (by simp <;> omega)).trans (by go_simp); go_simp; first | done | exact rfl | exact ⟨rfl, rfl⟩
  simp only [Act.put, List.setIfInBounds_toArray, List.set_cons_succ, List.set_cons_zero]
  refine quiet_ext ?_; apply Exists.intro; refine ⟨fun w9 hC => ?_, ?_⟩
  · replace zz0 : w9.cell? ⟨w.heap.size, 0, none⟩ = some (.int .i64 a) := (hC.cell (p := ⟨w.heap.size, 0, none⟩) (by simp <;> omega)).trans (by go_simp); replace zz1 : w9.cell? ⟨w.heap.size, 1, none⟩ = some (.int .i64 b) := (hC.cell (p := ⟨w.heap.size, 1, none⟩) (by simp <;> omega)).trans (by go_simp); replace zz2 : w9.cell? ⟨g, 0, none⟩ = some (.int .i64 off) := (hC.cell (p := ⟨g, 0, none⟩) (by simp <;> omega)).trans (by go_simp); go_simp; first | done | exact rfl | exact ⟨rfl, rfl⟩
  simp only [Act.put, List.setIfInBounds_toArray, List.set_cons_succ, List.set_cons_zero]
  refine quiet_ext ?_; apply Exists.intro; refine ⟨fun w9 hC => ?_, ?_⟩
  · replace zz0 : w9.cell? ⟨w.heap.size, 0, none⟩ = some (.int .i64 a) := (hC.cell (p := ⟨w.heap.size, 0, none⟩) (by simp <;> omega)).trans (by go_simp); replace zz1 : w9.cell? ⟨w.heap.size, 1, none⟩ = some (.int .i64 b) := (hC.cell (p := ⟨w.heap.size, 1, none⟩) (by simp <;> omega)).trans (by go_simp); replace zz2 : w9.cell? ⟨g, 0, none⟩ = some (.int .i64 off) := (hC.cell (p := ⟨g, 0, none⟩) (by simp <;> omega)).trans (by go_simp); go_simp; first | done | exact rfl | exact ⟨rfl, rfl⟩
  simp only [Act.put, List.setIfInBounds_toArray, List.set_cons_succ, List.set_cons_zero]
  refine quiet_ext ?_; apply Exists.intro; refine ⟨fun w9 hC => ?_, ?_⟩
  · replace zz0 : w9.cell? ⟨w.heap.size, 0, none⟩ = some (.int .i64 a) := (hC.cell (p := ⟨w.heap.size, 0, none⟩) (by simp <;> omega)).trans (by go_simp); replace zz1 : w9.cell? ⟨w.heap.size, 1, none⟩ = some (.int .i64 b) := (hC.cell (p := ⟨w.heap.size, 1, none⟩) (by simp <;> omega)).trans (by go_simp); replace zz2 : w9.cell? ⟨g, 0, none⟩ = some (.int .i64 off) := (hC.cell (p := ⟨g, 0, none⟩) (by simp <;> omega)).trans (by go_simp); go_simp; first | done | exact rfl | exact ⟨rfl, rfl⟩
  simp only [Act.put, List.setIfInBounds_toArray, List.set_cons_succ, List.set_cons_zero]
  refine quiet_ext ?_; apply Exists.intro; refine ⟨fun w9 hC => ?_, ?_⟩
  · replace zz0 : w9.cell? ⟨w.heap.size, 0, none⟩ = some (.int .i64 a) := (hC.cell (p := ⟨w.heap.size, 0, none⟩) (by simp <;> omega)).trans (by go_simp); replace zz1 : w9.cell? ⟨w.heap.size, 1, none⟩ = some (.int .i64 b) := (hC.cell (p := ⟨w.heap.size, 1, none⟩) (by simp <;> omega)).trans (by go_simp); replace zz2 : w9.cell? ⟨g, 0, none⟩ = some (.int .i64 off) := (hC.cell (p := ⟨g, 0, none⟩) (by simp <;> omega)).trans (by go_simp); go_simp; first | done | exact rfl | exact ⟨rfl, rfl⟩
  simp only [Act.put, List.setIfInBounds_toArray, List.set_cons_succ, List.set_cons_zero]
  refine quiet_ext ?_; apply Exists.intro; refine ⟨fun w9 hC => ?_, ?_⟩
  · replace zz0 : w9.cell? ⟨w.heap.size, 0, none⟩ = some (.int .i64 a) := (hC.cell (p := ⟨w.heap.size, 0, none⟩) (by simp <;> omega)).trans (by go_simp); replace zz1 : w9.cell? ⟨w.heap.size, 1, none⟩ = some (.int .i64 b) := (hC.cell (p := ⟨w.heap.size, 1, none⟩) (by simp <;> omega)).trans (by go_simp); replace zz2 : w9.cell? ⟨g, 0, none⟩ = some (.int .i64 off) := (hC.cell (p := ⟨g, 0, none⟩) (by simp <;> omega)).trans (by go_simp); go_simp; first | done | exact rfl | exact ⟨rfl, rfl⟩
  simp only [Act.put, List.setIfInBounds_toArray, List.set_cons_succ, List.set_cons_zero]
  refine quiet_ext ?_; apply Exists.intro; refine ⟨fun w9 hC => ?_, ?_⟩
  · replace zz0 : w9.cell? ⟨w.heap.size, 0, none⟩ = some (.int .i64 a) := (hC.cell (p := ⟨w.heap.size, 0, none⟩) (by simp <;> omega)).trans (by go_simp); replace zz1 : w9.cell? ⟨w.heap.size, 1, none⟩ = some (.int .i64 b) := (hC.cell (p := ⟨w.heap.size, 1, none⟩) (by simp <;> omega)).trans (by go_simp); replace zz2 : w9.cell? ⟨g, 0, none⟩ = some (.int .i64 off) := (hC.cell (p := ⟨g, 0, none⟩) (by simp <;> omega)).trans (by go_simp); go_simp; first | done | exact rfl | exact ⟨rfl, rfl⟩
  simp only [Act.put, List.setIfInBounds_toArray, List.set_cons_succ, List.set_cons_zero]
  refine quiet_ext ?_; apply Exists.intro; refine ⟨fun w9 hC => ?_, ?_⟩
  · replace zz0 : w9.cell? ⟨w.heap.size, 0, none⟩ = some (.int .i64 a) := (hC.cell (p := ⟨w.heap.size, 0, none⟩) (by simp <;> omega)).trans (by go_simp); replace zz1 : w9.cell? ⟨w.heap.size, 1, none⟩ = some (.int .i64 b) := (hC.cell (p := ⟨w.heap.size, 1, none⟩) (by simp <;> omega)).trans (by go_simp); replace zz2 : w9.cell? ⟨g, 0, none⟩ = some (.int .i64 off) := (hC.cell (p := ⟨g, 0, none⟩) (by simp <;> omega)).trans (by go_simp); go_simp; first | done | exact rfl | exact ⟨rfl, rfl⟩
  simp only [Act.put, List.setIfInBounds_toArray, List.set_cons_succ, List.set_cons_zero]
  refine quiet_ext ?_; apply Exists.intro; refine ⟨fun w9 hC => ?_, ?_⟩
  · replace zz0 : w9.cell? ⟨w.heap.size, 0, none⟩ = some (.int .i64 a) := (hC.cell (p := ⟨w.heap.size, 0, none⟩) (by simp <;> omega)).trans (by go_simp); replace zz1 : w9.cell? ⟨w.heap.size, 1, none⟩ = some (.int .i64 b) := (hC.cell (p := ⟨w.heap.size, 1, none⟩) (by simp <;> omega)).trans (by go_simp); replace zz2 : w9.cell? ⟨g, 0, none⟩ = some (.int .i64 off) := (hC.cell (p := ⟨g, 0, none⟩) (by simp <;> omega)).trans (by go_simp); go_simp; first | done | exact rfl | exact ⟨rfl, rfl⟩
  simp only [Act.put, List.setIfInBounds_toArray, List.set_cons_succ, List.set_cons_zero]
  refine quiet_ext ?_; apply Exists.intro; refine ⟨fun w9 hC => ?_, ?_⟩
  · replace zz0 : w9.cell? ⟨w.heap.size, 0, none⟩ = some (.int .i64 a) := (hC.cell (p := ⟨w.heap.size, 0, none⟩) (by simp <;> omega)).trans (by go_simp); replace zz1 : w9.cell? ⟨w.heap.size, 1, none⟩ = some (.int .i64 b) := (hC.cell (p := ⟨w.heap.size, 1, none⟩) (by simp <;> omega)).trans (by go_simp); replace zz2 : w9.cell? ⟨g, 0, none⟩ = some (.int .i64 off) := (hC.cell (p := ⟨g, 0, none⟩) (by simp <;> omega)).trans (by go_simp); go_simp; first | done | exact rfl | exact ⟨rfl, rfl⟩
  simp only [Act.put, List.setIfInBounds_toArray, List.set_cons_succ, List.set_cons_zero]
  refine wpQuiet_nil ?_
  intro w2 hC
  have gg := bel_call (w := w) (by repeat' (first | (with_reducible exact Below.refl _ _) | (with_reducible assumption) | (with_reducible refine Below.drew ?_) | (with_reducible refine below_drewN ?_ _) | (with_reducible refine bel_alloc ?_ _) | (with_reducible refine Below.setCell ?_ ?_ _) | (with_reducible refine bel_call ?_ (by assumption)) | (simp <;> omega))) hC.below
  clear hC
  go_wp2_with fail
  go_ret
  exact ⟨rfl, gg⟩
set_option maxHeartbeats 1000000 in
theorem passed_nowall (g : Nat) (off la lb a b t : Int) (w : World) (h : Clk w g off la lb) (ht : isWall t = false) :
    Calls Try.prog 24 #[.pointer (some ⟨g, 0, none⟩), .agg #[.int .i64 a, .int .i64 b], .int .i64 t] w (Ret (.bool false) w) := by
  obtain ⟨lt, c0, _, _, _, _⟩ := h
  go_enter Try.func24, Try.ntmps24
  go_wp2_with fail
  refine wp_region_below (by kernel_rfl) (by kernel_rfl) ?_
  refine quiet_ext ?_; apply Exists.intro; refine ⟨fun w9 hC => ?_, ?_⟩
  · replace zz0 : w9.cell? ⟨g, 0, none⟩ = some (.int .i64 off) := (hC.cell (p := ⟨g, 0, none⟩) (by simp <;> omega)).trans (by go_simp); go_simp; first | done | exact rfl | exact ⟨rfl, rfl⟩
  simp only [Act.put, List.setIfInBounds_toArray, List.set_cons_succ, List.set_cons_zero]
  refine quiet_ext ?_; apply Exists.intro; refine ⟨fun w9 hC => ?_, ?_⟩
  · replace zz0 : w9.cell? ⟨g, 0, none⟩ = some (.int .i64 off) := (hC.cell (p := ⟨g, 0, none⟩) (by simp <;> omega)).trans (by go_simp); go_simp; exact (wall_any _ _).mono fun _ _ h => ⟨h.1, h.2 ▸ hC⟩
  simp only [Act.put, List.setIfInBounds_toArray, List.set_cons_succ, List.set_cons_zero]
  refine quiet_ext ?_; apply Exists.intro; refine ⟨fun w9 hC => ?_, ?_⟩
  · replace zz0 : w9.cell? ⟨g, 0, none⟩ = some (.int .i64 off) := (hC.cell (p := ⟨g, 0, none⟩) (by simp <;> omega)).trans (by go_simp); go_simp; first | done | exact rfl | exact ⟨rfl, rfl⟩
  simp only [Act.put, List.setIfInBounds_toArray, List.set_cons_succ, List.set_cons_zero]
  refine quiet_ext ?_; apply Exists.intro; refine ⟨fun w9 hC => ?_, ?_⟩
  · replace zz0 : w9.cell? ⟨g, 0, none⟩ = some (.int .i64 off) := (hC.cell (p := ⟨g, 0, none⟩) (by simp <;> omega)).trans (by go_simp); go_simp; first | done | exact rfl | exact ⟨rfl, rfl⟩
  simp only [Act.put, List.setIfInBounds_toArray, List.set_cons_succ, List.set_cons_zero]
  refine quiet_ext ?_; apply Exists.intro; refine ⟨fun w9 hC => ?_, ?_⟩
  · replace zz0 : w9.cell? ⟨g, 0, none⟩ = some (.int .i64 off) := (hC.cell (p := ⟨g, 0, none⟩) (by simp <;> omega)).trans (by go_simp); go_simp; first | done | exact rfl | exact ⟨rfl, rfl⟩
  simp only [Act.put, List.setIfInBounds_toArray, List.set_cons_succ, List.set_cons_zero]
  refine quiet_ext ?_; apply Exists.intro; refine ⟨fun w9 hC => ?_, ?_⟩
  · replace zz0 : w9.cell? ⟨g, 0, none⟩ = some (.int .i64 off) := (hC.cell (p := ⟨g, 0, none⟩) (by simp <;> omega)).trans (by go_simp); go_simp; first | done | exact rfl | exact ⟨rfl, rfl⟩
  simp only [Act.put, List.setIfInBounds_toArray, List.set_cons_succ, List.set_cons_zero]
  refine quiet_ext ?_; apply Exists.intro; refine ⟨fun w9 hC => ?_, ?_⟩
  · replace zz0 : w9.cell? ⟨g, 0, none⟩ = some (.int .i64 off) := (hC.cell (p := ⟨g, 0, none⟩) (by simp <;> omega)).trans (by go_simp); go_simp; first | done | exact rfl | exact ⟨rfl, rfl⟩
  simp only [Act.put, List.setIfInBounds_toArray, List.set_cons_succ, List.set_cons_zero]
  refine quiet_ext ?_; apply Exists.intro; refine ⟨fun w9 hC => ?_, ?_⟩
  · replace zz0 : w9.cell? ⟨g, 0, none⟩ = some (.int .i64 off) := (hC.cell (p := ⟨g, 0, none⟩) (by simp <;> omega)).trans (by go_simp); go_simp; first | done | exact rfl | exact ⟨rfl, rfl⟩
  simp only [Act.put, List.setIfInBounds_toArray, List.set_cons_succ, List.set_cons_zero]
  refine quiet_ext ?_; apply Exists.intro; refine ⟨fun w9 hC => ?_, ?_⟩
  · replace zz0 : w9.cell? ⟨g, 0, none⟩ = some (.int .i64 off) := (hC.cell (p := ⟨g, 0, none⟩) (by simp <;> omega)).trans (by go_simp); go_simp; first | done | exact rfl | exact ⟨rfl, rfl⟩
  simp only [Act.put, List.setIfInBounds_toArray, List.set_cons_succ, List.set_cons_zero]
  refine quiet_ext ?_; apply Exists.intro; refine ⟨fun w9 hC => ?_, ?_⟩
  · replace zz0 : w9.cell? ⟨g, 0, none⟩ = some (.int .i64 off) := (hC.cell (p := ⟨g, 0, none⟩) (by simp <;> omega)).trans (by go_simp); go_simp; first | done | exact rfl | exact ⟨rfl, rfl⟩
  simp only [Act.put, List.setIfInBounds_toArray, List.set_cons_succ, List.set_cons_zero]
  refine quiet_ext ?_; apply Exists.intro; refine ⟨fun w9 hC => ?_, ?_⟩
  · replace zz0 : w9.cell? ⟨g, 0, none⟩ = some (.int .i64 off) := (hC.cell (p := ⟨g, 0, none⟩) (by simp <;> omega)).trans (by go_simp); go_simp; first | done | exact rfl | exact ⟨rfl, rfl⟩
  simp only [Act.put, List.setIfInBounds_toArray, List.set_cons_succ, List.set_cons_zero]
  refine quiet_ext ?_; apply Exists.intro; refine ⟨fun w9 hC => ?_, ?_⟩
  · replace zz0 : w9.cell? ⟨g, 0, none⟩ = some (.int .i64 off) := (hC.cell (p := ⟨g, 0, none⟩) (by simp <;> omega)).trans (by go_simp); go_simp; first | done | exact rfl | exact ⟨rfl, rfl⟩
  simp only [Act.put, List.setIfInBounds_toArray, List.set_cons_succ, List.set_cons_zero]
  refine quiet_ext ?_; apply Exists.intro; refine ⟨fun w9 hC => ?_, ?_⟩
  · replace zz0 : w9.cell? ⟨g, 0, none⟩ = some (.int .i64 off) := (hC.cell (p := ⟨g, 0, none⟩) (by simp <;> omega)).trans (by go_simp); go_simp; first | done | exact rfl | exact ⟨rfl, rfl⟩
  simp only [Act.put, List.setIfInBounds_toArray, List.set_cons_succ, List.set_cons_zero]
  refine quiet_ext ?_; apply Exists.intro; refine ⟨fun w9 hC => ?_, ?_⟩
  · replace zz0 : w9.cell? ⟨g, 0, none⟩ = some (.int .i64 off) := (hC.cell (p := ⟨g, 0, none⟩) (by simp <;> omega)).trans (by go_simp); go_simp; first | done | exact rfl | exact ⟨rfl, rfl⟩
  simp only [Act.put, List.setIfInBounds_toArray, List.set_cons_succ, List.set_cons_zero]
  refine quiet_ext ?_; apply Exists.intro; refine ⟨fun w9 hC => ?_, ?_⟩
  · replace zz0 : w9.cell? ⟨g, 0, none⟩ = some (.int .i64 off) := (hC.cell (p := ⟨g, 0, none⟩) (by simp <;> omega)).trans (by go_simp); go_simp; first | done | exact rfl | exact ⟨rfl, rfl⟩
  simp only [Act.put, List.setIfInBounds_toArray, List.set_cons_succ, List.set_cons_zero]
  refine quiet_ext ?_; apply Exists.intro; refine ⟨fun w9 hC => ?_, ?_⟩
  · replace zz0 : w9.cell? ⟨g, 0, none⟩ = some (.int .i64 off) := (hC.cell (p := ⟨g, 0, none⟩) (by simp <;> omega)).trans (by go_simp); go_simp; first | done | exact rfl | exact ⟨rfl, rfl⟩
  simp only [Act.put, List.setIfInBounds_toArray, List.set_cons_succ, List.set_cons_zero]
  refine quiet_ext ?_; apply Exists.intro; refine ⟨fun w9 hC => ?_, ?_⟩
  · replace zz0 : w9.cell? ⟨g, 0, none⟩ = some (.int .i64 off) := (hC.cell (p := ⟨g, 0, none⟩) (by simp <;> omega)).trans (by go_simp); go_simp; first | done | exact rfl | exact ⟨rfl, rfl⟩
  simp only [Act.put, List.setIfInBounds_toArray, List.set_cons_succ, List.set_cons_zero]
  refine quiet_ext ?_; apply Exists.intro; refine ⟨fun w9 hC => ?_, ?_⟩
  · replace zz0 : w9.cell? ⟨g, 0, none⟩ = some (.int .i64 off) := (hC.cell (p := ⟨g, 0, none⟩) (by simp <;> omega)).trans (by go_simp); go_simp; first | done | exact rfl | exact ⟨rfl, rfl⟩
  simp only [Act.put, List.setIfInBounds_toArray, List.set_cons_succ, List.set_cons_zero]
  refine wpQuiet_nil ?_
  intro w2 hC
  have gg := bel_call (w := w) (by repeat' (first | (with_reducible exact Below.refl _ _) | (with_reducible assumption) | (with_reducible refine Below.drew ?_) | (with_reducible refine below_drewN ?_ _) | (with_reducible refine bel_alloc ?_ _) | (with_reducible refine Below.setCell ?_ ?_ _) | (with_reducible refine bel_call ?_ (by assumption)) | (simp <;> omega))) hC.below
  clear hC
  go_wp2_with fail
  go_ret
  exact ⟨rfl, gg⟩
theorem passed_any (g : Nat) (off la lb a b t : Int) (w : World) (h : Clk w g off la lb) (ho : isWall off = true) :
    Calls Try.prog 24 #[.pointer (some ⟨g, 0, none⟩), .agg #[.int .i64 a, .int .i64 b], .int .i64 t] w (Ret (.bool (passed off a b t)) w) := by
  cases ht : isWall t
  · have e : passed off a b t = false := by simp [passed, ht]
    rw [e]; exact passed_nowall g off la lb a b t w h ht
  · cases hr : right a b
    · have e : passed off a b t = false := by simp [passed, hr]
      rw [e]; exact passed_no g off la lb a b t w h hr ht
    · have e : passed off a b t = decide (off < t - a) := by simp [passed, hr, ht]
      rw [e]; exact passed_yes g off la lb a b t w h hr ht ho
set_option maxHeartbeats 400000 in
theorem new_ok (off : Int) (w : World) (h : isWall off = true) :
    Calls Try.prog 22 #[.int .i64 off] w fun e w' => e = .returned (.tuple #[.pointer (some ⟨w.heap.size, 0, none⟩), .int .i64 0]) ∧ w' = w.alloc (.cells #[.int .i64 off, .int .i64 0, .int .i64 0] 57) := by
  go_enter Try.func22, Try.ntmps22
  go_wp2_with (go_at_call 32; refine (wall_any _ _).mono ?_; rintro e w' ⟨rfl, rfl⟩)
  go_ret2
  exact ⟨rfl, rfl⟩
set_option maxHeartbeats 400000 in
theorem new_bad (off : Int) (w : World) (h : isWall off = false) :
    Calls Try.prog 22 #[.int .i64 off] w fun e w' => e = .returned (.tuple #[.pointer none, .int .i64 1]) ∧ w = w' := by
  go_enter Try.func22, Try.ntmps22
  go_wp2_with (go_at_call 32; refine (wall_any _ _).mono ?_; rintro e w' ⟨rfl, rfl⟩)
  go_ret2
  exact ⟨rfl, rfl⟩
end Hlc
end Go.Proofs.Ytogooghigeemaaa
