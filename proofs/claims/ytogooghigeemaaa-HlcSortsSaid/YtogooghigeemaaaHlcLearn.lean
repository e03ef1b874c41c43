/- hlc's clock and the document's: Learn; the document's Passed. -/
import Derived.Test.YtogooghigeemaaaHlcRNow
namespace Go.Proofs.Ytogooghigeemaaa
open Go.RowKit
namespace Hlc
attribute [local irreducible] wpQuiet
def learnE (off a b t : Int) : Int := if isWall t = false then 1 else if right a b = false then 80 else if off < a - t then 81 else 0
def learnL (off la lb a b t : Int) : Int × Int := if learnE off a b t = 0 ∧ 0 < cmpS a b la lb then (a, b) else (la, lb)
def LearnPost (g : Nat) (off la lb a b t : Int) (w : World) (e : Ending) (w' : World) : Prop :=
  e = .returned (.int .i64 (learnE off a b t)) ∧ Clk w' g off (learnL off la lb a b t).1 (learnL off la lb a b t).2 ∧ w.grownBy w' (some g)
set_option maxHeartbeats 1000000 in
theorem learn0 (g : Nat) (off la lb a b t : Int) (w : World) (h : Clk w g off la lb) (ht : isWall t = false) :
    Calls Try.prog 26 #[.pointer (some ⟨g, 0, none⟩), .agg #[.int .i64 a, .int .i64 b], .int .i64 t] w (LearnPost g off la lb a b t w) := by
  have e1 : learnE off a b t = 1 := by unfold learnE; rw [if_pos ht]
  have e2 : learnL off la lb a b t = (la, lb) := by unfold learnL; rw [e1, if_neg (by simp)]
  unfold LearnPost
  rw [e1, e2]
  clear e1 e2
  have ht1 : (!isWall t) = true := by simp [ht]
  clear ht
  obtain ⟨lt, c0, c1, c2, f1, f2⟩ := h
  go_enter Try.func26, Try.ntmps26
  go_wp2_with (go_at_call 32; refine (wall_any _ _).mono ?_; rintro e w' ⟨rfl, rfl⟩)
  go_ret
  exact ⟨rfl, ⟨by first | omega | (simp <;> omega), by go_simp, by go_simp, by go_simp, by go_simp, by go_simp⟩, (by repeat' (first | (with_reducible exact gb_refl _ _) | (with_reducible assumption) | (with_reducible refine gb_set ?_ ?_ _) | (with_reducible refine gb_alloc ?_ _) | (with_reducible refine gb_drew ?_) | (with_reducible refine gb_call ?_ (by assumption)) | exact .inl rfl | exact .inr (by simp <;> omega)))⟩

set_option maxHeartbeats 1000000 in
theorem learn1 (g : Nat) (off la lb a b t : Int) (w : World) (h : Clk w g off la lb) (ht : isWall t = true) (hr : right a b = false) :
    Calls Try.prog 26 #[.pointer (some ⟨g, 0, none⟩), .agg #[.int .i64 a, .int .i64 b], .int .i64 t] w (LearnPost g off la lb a b t w) := by
  have e1 : learnE off a b t = 80 := by unfold learnE; rw [if_neg (by simp [ht]), if_pos hr]
  have e2 : learnL off la lb a b t = (la, lb) := by unfold learnL; rw [e1, if_neg (by simp)]
  unfold LearnPost
  rw [e1, e2]
  clear e1 e2
  have ht1 : (!isWall t) = false := by simp [ht]
  have hr1 : (!right a b) = true := by simp [hr]
  clear ht hr
  obtain ⟨lt, c0, c1, c2, f1, f2⟩ := h
  go_enter Try.func26, Try.ntmps26
  go_wp2_with (go_at_call 32; refine (wall_any _ _).mono ?_; rintro e w' ⟨rfl, rfl⟩)
  refine (right_any a b _).mono ?_
  rintro e w1 ⟨rfl, hb1⟩
  have z := hb1.size; (try simp at z)
  have y0 : g < w1.heap.size := by omega
  have y1 : w.heap.size < w1.heap.size := by omega
  have G : w.grownBy w1 (some g) := (by repeat' (first | (with_reducible exact gb_refl _ _) | (with_reducible assumption) | (with_reducible refine gb_set ?_ ?_ _) | (with_reducible refine gb_alloc ?_ _) | (with_reducible refine gb_drew ?_) | (with_reducible refine gb_call ?_ (by assumption)) | exact .inl rfl | exact .inr (by simp <;> omega)))
  replace k0 : w1.cell? ⟨w.heap.size, 0, none⟩ = some (.int .i64 a) := (hb1.cell (p := ⟨w.heap.size, 0, none⟩) (by simp <;> omega)).trans (by go_simp); replace k1 : w1.cell? ⟨w.heap.size, 1, none⟩ = some (.int .i64 b) := (hb1.cell (p := ⟨w.heap.size, 1, none⟩) (by simp <;> omega)).trans (by go_simp)
  replace g0 : w1.cell? ⟨g, 0, none⟩ = some (.int .i64 off) := (hb1.cell (p := ⟨g, 0, none⟩) (by simp <;> omega)).trans (by go_simp)
  replace q0 : w1.cell? ⟨g, 1, none⟩ = some (.int .i64 la) := (hb1.cell (p := ⟨g, 1, none⟩) (by simp <;> omega)).trans (by go_simp); replace q0f : w1.frozen? ⟨g, 1, none⟩ = false := (hb1.frozen (p := ⟨g, 1, none⟩) (by simp <;> omega)).trans (by go_simp); replace q1 : w1.cell? ⟨g, 2, none⟩ = some (.int .i64 lb) := (hb1.cell (p := ⟨g, 2, none⟩) (by simp <;> omega)).trans (by go_simp); replace q1f : w1.frozen? ⟨g, 2, none⟩ = false := (hb1.frozen (p := ⟨g, 2, none⟩) (by simp <;> omega)).trans (by go_simp)
  clear hb1 c0 c1 c2 f1 f2
  go_wp2_with fail
  go_ret
  exact ⟨rfl, ⟨by first | omega | (simp <;> omega), by go_simp, by go_simp, by go_simp, by go_simp, by go_simp⟩, (by repeat' (first | (with_reducible exact gb_refl _ _) | (with_reducible assumption) | (with_reducible refine gb_set ?_ ?_ _) | (with_reducible refine gb_alloc ?_ _) | (with_reducible refine gb_drew ?_) | (with_reducible refine gb_call ?_ (by assumption)) | exact .inl rfl | exact .inr (by simp <;> omega)))⟩

set_option maxHeartbeats 1000000 in
theorem learn2 (g : Nat) (off la lb a b t : Int) (w : World) (h : Clk w g off la lb) (ht : isWall t = true) (hr : right a b = true) (ho : isWall off = true) (hf : off < a - t) :
    Calls Try.prog 26 #[.pointer (some ⟨g, 0, none⟩), .agg #[.int .i64 a, .int .i64 b], .int .i64 t] w (LearnPost g off la lb a b t w) := by
  have e1 : learnE off a b t = 81 := by unfold learnE; rw [if_neg (by simp [ht]), if_neg (by simp [hr]), if_pos hf]
  have e2 : learnL off la lb a b t = (la, lb) := by unfold learnL; rw [e1, if_neg (by simp)]
  unfold LearnPost
  rw [e1, e2]
  clear e1 e2
  have hbd := right_iff.1 hr
  have hbt : 0 ≤ t ∧ t ≤ 9007199254740991 := by simpa [isWall] using ht
  have hbo : 0 ≤ off ∧ off ≤ 9007199254740991 := by simpa [isWall] using ho
  have hw := IntWalk.i64_in (a - t) (by omega)
  have hf1 : decide (off < a - t) = true := by simp; omega
  clear hf ho
  have ht1 : (!isWall t) = false := by simp [ht]
  have hr1 : (!right a b) = false := by simp [hr]
  clear ht hr
  obtain ⟨lt, c0, c1, c2, f1, f2⟩ := h
  go_enter Try.func26, Try.ntmps26
  go_wp2_with (go_at_call 32; refine (wall_any _ _).mono ?_; rintro e w' ⟨rfl, rfl⟩)
  refine (right_any a b _).mono ?_
  rintro e w1 ⟨rfl, hb1⟩
  have z := hb1.size; (try simp at z)
  have y0 : g < w1.heap.size := by omega
  have y1 : w.heap.size < w1.heap.size := by omega
  have G : w.grownBy w1 (some g) := (by repeat' (first | (with_reducible exact gb_refl _ _) | (with_reducible assumption) | (with_reducible refine gb_set ?_ ?_ _) | (with_reducible refine gb_alloc ?_ _) | (with_reducible refine gb_drew ?_) | (with_reducible refine gb_call ?_ (by assumption)) | exact .inl rfl | exact .inr (by simp <;> omega)))
  replace k0 : w1.cell? ⟨w.heap.size, 0, none⟩ = some (.int .i64 a) := (hb1.cell (p := ⟨w.heap.size, 0, none⟩) (by simp <;> omega)).trans (by go_simp); replace k1 : w1.cell? ⟨w.heap.size, 1, none⟩ = some (.int .i64 b) := (hb1.cell (p := ⟨w.heap.size, 1, none⟩) (by simp <;> omega)).trans (by go_simp)
  replace g0 : w1.cell? ⟨g, 0, none⟩ = some (.int .i64 off) := (hb1.cell (p := ⟨g, 0, none⟩) (by simp <;> omega)).trans (by go_simp)
  replace q0 : w1.cell? ⟨g, 1, none⟩ = some (.int .i64 la) := (hb1.cell (p := ⟨g, 1, none⟩) (by simp <;> omega)).trans (by go_simp); replace q0f : w1.frozen? ⟨g, 1, none⟩ = false := (hb1.frozen (p := ⟨g, 1, none⟩) (by simp <;> omega)).trans (by go_simp); replace q1 : w1.cell? ⟨g, 2, none⟩ = some (.int .i64 lb) := (hb1.cell (p := ⟨g, 2, none⟩) (by simp <;> omega)).trans (by go_simp); replace q1f : w1.frozen? ⟨g, 2, none⟩ = false := (hb1.frozen (p := ⟨g, 2, none⟩) (by simp <;> omega)).trans (by go_simp)
  clear hb1 c0 c1 c2 f1 f2
  go_wp2_with fail
  refine wp_region_below (by kernel_rfl) (by kernel_rfl) ?_
  refine quiet_ext ?_; apply Exists.intro; refine ⟨fun w9 hC => ?_, ?_⟩
  · replace zz0 : w9.cell? ⟨w.heap.size, 0, none⟩ = some (.int .i64 a) := (hC.cell (p := ⟨w.heap.size, 0, none⟩) (by simp <;> omega)).trans (by go_simp); replace zz1 : w9.cell? ⟨w.heap.size, 1, none⟩ = some (.int .i64 b) := (hC.cell (p := ⟨w.heap.size, 1, none⟩) (by simp <;> omega)).trans (by go_simp); replace zz2 : w9.cell? ⟨g, 0, none⟩ = some (.int .i64 off) := (hC.cell (p := ⟨g, 0, none⟩) (by simp <;> omega)).trans (by go_simp); go_simp; first | done | exact rfl | exact ⟨rfl, rfl⟩
  simp only [Act.put, List.setIfInBounds_toArray, List.set_cons_succ, List.set_cons_zero]
  refine quiet_ext ?_; apply Exists.intro; refine ⟨fun w9 hC => ?_, ?_⟩
  · replace zz0 : w9.cell? ⟨w.heap.size, 0, none⟩ = some (.int .i64 a) := (hC.cell (p := ⟨w.heap.size, 0, none⟩) (by simp <;> omega)).trans (by go_simp); replace zz1 : w9.cell? ⟨w.heap.size, 1, none⟩ = some (.int .i64 b) := (hC.cell (p := ⟨w.heap.size, 1, none⟩) (by simp <;> omega)).trans (by go_simp); replace zz2 : w9.cell? ⟨g, 0, none⟩ = some (.int .i64 off) := (hC.cell (p := ⟨g, 0, none⟩) (by simp <;> omega)).trans (by go_simp); go_simp; first | done | exact rfl | exact ⟨rfl, rfl⟩
  simp only [Act.put, List.setIfInBounds_toArray, List.set_cons_succ, List.set_cons_zero]
  refine quiet_ext ?_; apply Exists.intro; refine ⟨fun w9 hC => ?_, ?_⟩
  · replace zz0 : w9.cell? ⟨w.heap.size, 0, none⟩ = some (.int .i64 a) := (hC.cell (p := ⟨w.heap.size, 0, none⟩) (by simp <;> omega)).trans (by go_simp); replace zz1 : w9.cell? ⟨w.heap.size, 1, none⟩ = some (.int .i64 b) := (hC.cell (p := ⟨w.heap.size, 1, none⟩) (by simp <;> omega)).trans (by go_simp); replace zz2 : w9.cell? ⟨g, 0, none⟩ = some (.int .i64 off) := (hC.cell (p := ⟨g, 0, none⟩) (by simp <;> omega)).trans (by go_simp); go_simp; first | done | exact rfl | exact ⟨rfl, rfl⟩
  simp only [Act.put, List.setIfInBounds_toArray, List.set_cons_succ, List.set_cons_zero]
  refine quiet_ext ?_; apply Exists.intro; refine ⟨fun w9 hC => ?_, ?_⟩
  · replace zz0 : w9.cell? ⟨w.heap.size, 0, none⟩ = some (.int .i64 a) := (hC.cell (p := ⟨w.heap.size, 0, none⟩) (by simp <;> omega)).trans (by go_simp); replace zz1 : w9.cell? ⟨w.heap.size, 1, none⟩ = some (.int .i64 b) := (hC.cell (p := ⟨w.heap.size, 1, none⟩) (by simp <;> omega)).trans (by go_simp); replace zz2 : w9.cell? ⟨g, 0, none⟩ = some (.int .i64 off) := (hC.cell (p := ⟨g, 0, none⟩) (by simp <;> omega)).trans (by go_simp); go_simp; first | done | exact rfl | exact ⟨rfl, rfl⟩
  simp only [Act.put, List.setIfInBounds_toArray, List.set_cons_succ, List.set_cons_zero]
  refine quiet_ext ?_; apply Exists.intro; refine ⟨fun w9 hC => ?_, ?_⟩
  · replace zz0 : w9.cell? ⟨w.heap.size, 0, none⟩ = some (.int .i64 a) := (hC.cell (p := ⟨w.heap.size, 0, none⟩) (by simp <;> omega)).trans (by go_simp); replace zz1 : w9.cell? ⟨w.heap.size, 1, none⟩ = some (.int .i64 b) := (hC.cell (p := ⟨w.heap.size, 1, none⟩) (by simp <;> omega)).trans (by go_simp); replace zz2 : w9.cell? ⟨g, 0, none⟩ = some (.int .i64 off) := (hC.cell (p := ⟨g, 0, none⟩) (by simp <;> omega)).trans (by go_simp); go_simp; first | done | exact rfl | exact ⟨rfl, rfl⟩
  simp only [Act.put, List.setIfInBounds_toArray, List.set_cons_succ, List.set_cons_zero]
  refine quiet_ext ?_; apply Exists.intro; refine ⟨fun w9 hC => ?_, ?_⟩
  · replace zz0 : w9.cell? ⟨w.heap.size, 0, none⟩ = some (.int .i64 a) := (hC.cell (p := ⟨w.heap.size, 0, none⟩) (by simp <;> omega)).trans (by go_simp); replace zz1 : w9.cell? ⟨w.heap.size, 1, none⟩ = some (.int .i64 b) := (hC.cell (p := ⟨w.heap.size, 1, none⟩) (by simp <;> omega)).trans (by go_simp); replace zz2 : w9.cell? ⟨g, 0, none⟩ = some (.int .i64 off) := (hC.cell (p := ⟨g, 0, none⟩) (by simp <;> omega)).trans (by go_simp); go_simp; first | done | exact rfl | exact ⟨rfl, rfl⟩
  simp only [Act.put, List.setIfInBounds_toArray, List.set_cons_succ, List.set_cons_zero]
  refine quiet_ext ?_; apply Exists.intro; refine ⟨fun w9 hC => ?_, ?_⟩
  · replace zz0 : w9.cell? ⟨w.heap.size, 0, none⟩ = some (.int .i64 a) := (hC.cell (p := ⟨w.heap.size, 0, none⟩) (by simp <;> omega)).trans (by go_simp); replace zz1 : w9.cell? ⟨w.heap.size, 1, none⟩ = some (.int .i64 b) := (hC.cell (p := ⟨w.heap.size, 1, none⟩) (by simp <;> omega)).trans (by go_simp); replace zz2 : w9.cell? ⟨g, 0, none⟩ = some (.int .i64 off) := (hC.cell (p := ⟨g, 0, none⟩) (by simp <;> omega)).trans (by go_simp); go_simp; first | done | exact rfl | exact ⟨rfl, rfl⟩
  simp only [Act.put, List.setIfInBounds_toArray, List.set_cons_succ, List.set_cons_zero]
  refine quiet_ext ?_; apply Exists.intro; refine ⟨fun w9 hC => ?_, ?_⟩
  · replace zz0 : w9.cell? ⟨w.heap.size, 0, none⟩ = some (.int .i64 a) := (hC.cell (p := ⟨w.heap.size, 0, none⟩) (by simp <;> omega)).trans (by go_simp); replace zz1 : w9.cell? ⟨w.heap.size, 1, none⟩ = some (.int .i64 b) := (hC.cell (p := ⟨w.heap.size, 1, none⟩) (by simp <;> omega)).trans (by go_simp); replace zz2 : w9.cell? ⟨g, 0, none⟩ = some (.int .i64 off) := (hC.cell (p := ⟨g, 0, none⟩) (by simp <;> omega)).trans (by go_simp); go_simp; first | done | exact rfl | exact ⟨rfl, rfl⟩
  simp only [Act.put, List.setIfInBounds_toArray, List.set_cons_succ, List.set_cons_zero]
  refine quiet_ext ?_; apply Exists.intro; refine ⟨fun w9 hC => ?_, ?_⟩
  · replace zz0 : w9.cell? ⟨w.heap.size, 0, none⟩ = some (.int .i64 a) := (hC.cell (p := ⟨w.heap.size, 0, none⟩) (by simp <;> omega)).trans (by go_simp); replace zz1 : w9.cell? ⟨w.heap.size, 1, none⟩ = some (.int .i64 b) := (hC.cell (p := ⟨w.heap.size, 1, none⟩) (by simp <;> omega)).trans (by go_simp); replace zz2 : w9.cell? ⟨g, 0, none⟩ = some (.int .i64 off) := (hC.cell (p := ⟨g, 0, none⟩) (by simp <;> omega)).trans (by go_simp); go_simp; first | done | exact rfl | exact ⟨rfl, rfl⟩
  simp only [Act.put, List.setIfInBounds_toArray, List.set_cons_succ, List.set_cons_zero]
  refine quiet_ext ?_; apply Exists.intro; refine ⟨fun w9 hC => ?_, ?_⟩
  · replace zz0 : w9.cell? ⟨w.heap.size, 0, none⟩ = some (.int .i64 a) := (hC.cell (p := ⟨w.heap.size, 0, none⟩) (by simp <;> omega)).trans (by go_simp); replace zz1 : w9.cell? ⟨w.heap.size, 1, none⟩ = some (.int .i64 b) := (hC.cell (p := ⟨w.heap.size, 1, none⟩) (by simp <;> omega)).trans (by go_simp); replace zz2 : w9.cell? ⟨g, 0, none⟩ = some (.int .i64 off) := (hC.cell (p := ⟨g, 0, none⟩) (by simp <;> omega)).trans (by go_simp); go_simp; first | done | exact rfl | exact ⟨rfl, rfl⟩
  simp only [Act.put, List.setIfInBounds_toArray, List.set_cons_succ, List.set_cons_zero]
  refine wpQuiet_nil ?_
  intro w2 hC
  have hb2 := hC.below
  have z2 := hb2.size; (try simp at z2)
  replace y0 : g < w2.heap.size := by omega
  replace y1 : w.heap.size < w2.heap.size := by omega
  replace G : w.grownBy w2 (some g) := gb_call G hb2
  replace k0 : w2.cell? ⟨w.heap.size, 0, none⟩ = some (.int .i64 a) := (hb2.cell (p := ⟨w.heap.size, 0, none⟩) (by simp <;> omega)).trans (by go_simp); replace k1 : w2.cell? ⟨w.heap.size, 1, none⟩ = some (.int .i64 b) := (hb2.cell (p := ⟨w.heap.size, 1, none⟩) (by simp <;> omega)).trans (by go_simp)
  replace g0 : w2.cell? ⟨g, 0, none⟩ = some (.int .i64 off) := (hb2.cell (p := ⟨g, 0, none⟩) (by simp <;> omega)).trans (by go_simp)
  replace q0 : w2.cell? ⟨g, 1, none⟩ = some (.int .i64 la) := (hb2.cell (p := ⟨g, 1, none⟩) (by simp <;> omega)).trans (by go_simp); replace q0f : w2.frozen? ⟨g, 1, none⟩ = false := (hb2.frozen (p := ⟨g, 1, none⟩) (by simp <;> omega)).trans (by go_simp); replace q1 : w2.cell? ⟨g, 2, none⟩ = some (.int .i64 lb) := (hb2.cell (p := ⟨g, 2, none⟩) (by simp <;> omega)).trans (by go_simp); replace q1f : w2.frozen? ⟨g, 2, none⟩ = false := (hb2.frozen (p := ⟨g, 2, none⟩) (by simp <;> omega)).trans (by go_simp)
  clear hC hb2
  go_wp2_with fail
  go_ret
  exact ⟨rfl, ⟨by first | omega | (simp <;> omega), by go_simp, by go_simp, by go_simp, by go_simp, by go_simp⟩, (by repeat' (first | (with_reducible exact gb_refl _ _) | (with_reducible assumption) | (with_reducible refine gb_set ?_ ?_ _) | (with_reducible refine gb_alloc ?_ _) | (with_reducible refine gb_drew ?_) | (with_reducible refine gb_call ?_ (by assumption)) | exact .inl rfl | exact .inr (by simp <;> omega)))⟩

set_option maxHeartbeats 1000000 in
theorem learn3 (g : Nat) (off la lb a b t : Int) (w : World) (h : Clk w g off la lb) (ht : isWall t = true) (hr : right a b = true) (ho : isWall off = true) (hf : a - t ≤ off)  (hc : 0 < cmpS a b la lb) :
    Calls Try.prog 26 #[.pointer (some ⟨g, 0, none⟩), .agg #[.int .i64 a, .int .i64 b], .int .i64 t] w (LearnPost g off la lb a b t w) := by
  have e1 : learnE off a b t = 0 := by unfold learnE; rw [if_neg (by simp [ht]), if_neg (by simp [hr]), if_neg (by omega)]
  have e2 : learnL off la lb a b t = (a, b) := by unfold learnL; rw [e1, if_pos ⟨rfl, hc⟩]
  unfold LearnPost
  rw [e1, e2]
  clear e1 e2
  have hbd := right_iff.1 hr
  have hbt : 0 ≤ t ∧ t ≤ 9007199254740991 := by simpa [isWall] using ht
  have hbo : 0 ≤ off ∧ off ≤ 9007199254740991 := by simpa [isWall] using ho
  have hw := IntWalk.i64_in (a - t) (by omega)
  have hf1 : decide (off < a - t) = false := by simp; omega
  have hc1 : decide (0 < cmpS a b la lb) = true := by simp; omega
  clear hf ho hc
  have ht1 : (!isWall t) = false := by simp [ht]
  have hr1 : (!right a b) = false := by simp [hr]
  clear ht hr
  obtain ⟨lt, c0, c1, c2, f1, f2⟩ := h
  go_enter Try.func26, Try.ntmps26
  go_wp2_with (go_at_call 32; refine (wall_any _ _).mono ?_; rintro e w' ⟨rfl, rfl⟩)
  refine (right_any a b _).mono ?_
  rintro e w1 ⟨rfl, hb1⟩
  have z := hb1.size; (try simp at z)
  have y0 : g < w1.heap.size := by omega
  have y1 : w.heap.size < w1.heap.size := by omega
  have G : w.grownBy w1 (some g) := (by repeat' (first | (with_reducible exact gb_refl _ _) | (with_reducible assumption) | (with_reducible refine gb_set ?_ ?_ _) | (with_reducible refine gb_alloc ?_ _) | (with_reducible refine gb_drew ?_) | (with_reducible refine gb_call ?_ (by assumption)) | exact .inl rfl | exact .inr (by simp <;> omega)))
  replace k0 : w1.cell? ⟨w.heap.size, 0, none⟩ = some (.int .i64 a) := (hb1.cell (p := ⟨w.heap.size, 0, none⟩) (by simp <;> omega)).trans (by go_simp); replace k1 : w1.cell? ⟨w.heap.size, 1, none⟩ = some (.int .i64 b) := (hb1.cell (p := ⟨w.heap.size, 1, none⟩) (by simp <;> omega)).trans (by go_simp)
  replace g0 : w1.cell? ⟨g, 0, none⟩ = some (.int .i64 off) := (hb1.cell (p := ⟨g, 0, none⟩) (by simp <;> omega)).trans (by go_simp)
  replace q0 : w1.cell? ⟨g, 1, none⟩ = some (.int .i64 la) := (hb1.cell (p := ⟨g, 1, none⟩) (by simp <;> omega)).trans (by go_simp); replace q0f : w1.frozen? ⟨g, 1, none⟩ = false := (hb1.frozen (p := ⟨g, 1, none⟩) (by simp <;> omega)).trans (by go_simp); replace q1 : w1.cell? ⟨g, 2, none⟩ = some (.int .i64 lb) := (hb1.cell (p := ⟨g, 2, none⟩) (by simp <;> omega)).trans (by go_simp); replace q1f : w1.frozen? ⟨g, 2, none⟩ = false := (hb1.frozen (p := ⟨g, 2, none⟩) (by simp <;> omega)).trans (by go_simp)
  clear hb1 c0 c1 c2 f1 f2
  go_wp2_with fail
  refine wp_region_below (by kernel_rfl) (by kernel_rfl) ?_
  refine quiet_ext ?_; apply Exists.intro; refine ⟨fun w9 hC => ?_, ?_⟩
  · replace zz0 : w9.cell? ⟨w.heap.size, 0, none⟩ = some (.int .i64 a) := (hC.cell (p := ⟨w.heap.size, 0, none⟩) (by simp <;> omega)).trans (by go_simp); replace zz1 : w9.cell? ⟨w.heap.size, 1, none⟩ = some (.int .i64 b) := (hC.cell (p := ⟨w.heap.size, 1, none⟩) (by simp <;> omega)).trans (by go_simp); replace zz2 : w9.cell? ⟨g, 0, none⟩ = some (.int .i64 off) := (hC.cell (p := ⟨g, 0, none⟩) (by simp <;> omega)).trans (by go_simp); go_simp; first | done | exact rfl | exact ⟨rfl, rfl⟩
  simp only [Act.put, List.setIfInBounds_toArray, List.set_cons_succ, List.set_cons_zero]
  refine quiet_ext ?_; apply Exists.intro; refine ⟨fun w9 hC => ?_, ?_⟩
  · replace zz0 : w9.cell? ⟨w.heap.size, 0, none⟩ = some (.int .i64 a) := (hC.cell (p := ⟨w.heap.size, 0, none⟩) (by simp <;> omega)).trans (by go_simp); replace zz1 : w9.cell? ⟨w.heap.size, 1, none⟩ = some (.int .i64 b) := (hC.cell (p := ⟨w.heap.size, 1, none⟩) (by simp <;> omega)).trans (by go_simp); replace zz2 : w9.cell? ⟨g, 0, none⟩ = some (.int .i64 off) := (hC.cell (p := ⟨g, 0, none⟩) (by simp <;> omega)).trans (by go_simp); go_simp; first | done | exact rfl | exact ⟨rfl, rfl⟩
  simp only [Act.put, List.setIfInBounds_toArray, List.set_cons_succ, List.set_cons_zero]
  refine quiet_ext ?_; apply Exists.intro; refine ⟨fun w9 hC => ?_, ?_⟩
  · replace zz0 : w9.cell? ⟨w.heap.size, 0, none⟩ = some (.int .i64 a) := (hC.cell (p := ⟨w.heap.size, 0, none⟩) (by simp <;> omega)).trans (by go_simp); replace zz1 : w9.cell? ⟨w.heap.size, 1, none⟩ = some (.int .i64 b) := (hC.cell (p := ⟨w.heap.size, 1, none⟩) (by simp <;> omega)).trans (by go_simp); replace zz2 : w9.cell? ⟨g, 0, none⟩ = some (.int .i64 off) := (hC.cell (p := ⟨g, 0, none⟩) (by simp <;> omega)).trans (by go_simp); go_simp; first | done | exact rfl | exact ⟨rfl, rfl⟩
  simp only [Act.put, List.setIfInBounds_toArray, List.set_cons_succ, List.set_cons_zero]
  refine quiet_ext ?_; apply Exists.intro; refine ⟨fun w9 hC => ?_, ?_⟩
  · replace zz0 : w9.cell? ⟨w.heap.size, 0, none⟩ = some (.int .i64 a) := (hC.cell (p := ⟨w.heap.size, 0, none⟩) (by simp <;> omega)).trans (by go_simp); replace zz1 : w9.cell? ⟨w.heap.size, 1, none⟩ = some (.int .i64 b) := (hC.cell (p := ⟨w.heap.size, 1, none⟩) (by simp <;> omega)).trans (by go_simp); replace zz2 : w9.cell? ⟨g, 0, none⟩ = some (.int .i64 off) := (hC.cell (p := ⟨g, 0, none⟩) (by simp <;> omega)).trans (by go_simp); go_simp; first | done | exact rfl | exact ⟨rfl, rfl⟩
  simp only [Act.put, List.setIfInBounds_toArray, List.set_cons_succ, List.set_cons_zero]
  refine quiet_ext ?_; apply Exists.intro; refine ⟨fun w9 hC => ?_, ?_⟩
  · replace zz0 : w9.cell? ⟨w.heap.size, 0, none⟩ = some (.int .i64 a) := (hC.cell (p := ⟨w.heap.size, 0, none⟩) (by simp <;> omega)).trans (by go_simp); replace zz1 : w9.cell? ⟨w.heap.size, 1, none⟩ = some (.int .i64 b) := (hC.cell (p := ⟨w.heap.size, 1, none⟩) (by simp <;> omega)).trans (by go_simp); replace zz2 : w9.cell? ⟨g, 0, none⟩ = some (.int .i64 off) := (hC.cell (p := ⟨g, 0, none⟩) (by simp <;> omega)).trans (by go_simp); go_simp; first | done | exact rfl | exact ⟨rfl, rfl⟩
  simp only [Act.put, List.setIfInBounds_toArray, List.set_cons_succ, List.set_cons_zero]
  refine quiet_ext ?_; apply Exists.intro; refine ⟨fun w9 hC => ?_, ?_⟩
  · replace zz0 : w9.cell? ⟨w.heap.size, 0, none⟩ = some (.int .i64 a) := (hC.cell (p := ⟨w.heap.size, 0, none⟩) (by simp <;> omega)).trans (by go_simp); replace zz1 : w9.cell? ⟨w.heap.size, 1, none⟩ = some (.int .i64 b) := (hC.cell (p := ⟨w.heap.size, 1, none⟩) (by simp <;> omega)).trans (by go_simp); replace zz2 : w9.cell? ⟨g, 0, none⟩ = some (.int .i64 off) := (hC.cell (p := ⟨g, 0, none⟩) (by simp <;> omega)).trans (by go_simp); go_simp; first | done | exact rfl | exact ⟨rfl, rfl⟩
  simp only [Act.put, List.setIfInBounds_toArray, List.set_cons_succ, List.set_cons_zero]
  refine quiet_ext ?_; apply Exists.intro; refine ⟨fun w9 hC => ?_, ?_⟩
  · replace zz0 : w9.cell? ⟨w.heap.size, 0, none⟩ = some (.int .i64 a) := (hC.cell (p := ⟨w.heap.size, 0, none⟩) (by simp <;> omega)).trans (by go_simp); replace zz1 : w9.cell? ⟨w.heap.size, 1, none⟩ = some (.int .i64 b) := (hC.cell (p := ⟨w.heap.size, 1, none⟩) (by simp <;> omega)).trans (by go_simp); replace zz2 : w9.cell? ⟨g, 0, none⟩ = some (.int .i64 off) := (hC.cell (p := ⟨g, 0, none⟩) (by simp <;> omega)).trans (by go_simp); go_simp; first | done | exact rfl | exact ⟨rfl, rfl⟩
  simp only [Act.put, List.setIfInBounds_toArray, List.set_cons_succ, List.set_cons_zero]
  refine quiet_ext ?_; apply Exists.intro; refine ⟨fun w9 hC => ?_, ?_⟩
  · replace zz0 : w9.cell? ⟨w.heap.size, 0, none⟩ = some (.int .i64 a) := (hC.cell (p := ⟨w.heap.size, 0, none⟩) (by simp <;> omega)).trans (by go_simp); replace zz1 : w9.cell? ⟨w.heap.size, 1, none⟩ = some (.int .i64 b) := (hC.cell (p := ⟨w.heap.size, 1, none⟩) (by simp <;> omega)).trans (by go_simp); replace zz2 : w9.cell? ⟨g, 0, none⟩ = some (.int .i64 off) := (hC.cell (p := ⟨g, 0, none⟩) (by simp <;> omega)).trans (by go_simp); go_simp; first | done | exact rfl | exact ⟨rfl, rfl⟩
  simp only [Act.put, List.setIfInBounds_toArray, List.set_cons_succ, List.set_cons_zero]
  refine quiet_ext ?_; apply Exists.intro; refine ⟨fun w9 hC => ?_, ?_⟩
  · replace zz0 : w9.cell? ⟨w.heap.size, 0, none⟩ = some (.int .i64 a) := (hC.cell (p := ⟨w.heap.size, 0, none⟩) (by simp <;> omega)).trans (by go_simp); replace zz1 : w9.cell? ⟨w.heap.size, 1, none⟩ = some (.int .i64 b) := (hC.cell (p := ⟨w.heap.size, 1, none⟩) (by simp <;> omega)).trans (by go_simp); replace zz2 : w9.cell? ⟨g, 0, none⟩ = some (.int .i64 off) := (hC.cell (p := ⟨g, 0, none⟩) (by simp <;> omega)).trans (by go_simp); go_simp; first | done | exact rfl | exact ⟨rfl, rfl⟩
  simp only [Act.put, List.setIfInBounds_toArray, List.set_cons_succ, List.set_cons_zero]
  refine quiet_ext ?_; apply Exists.intro; refine ⟨fun w9 hC => ?_, ?_⟩
  · replace zz0 : w9.cell? ⟨w.heap.size, 0, none⟩ = some (.int .i64 a) := (hC.cell (p := ⟨w.heap.size, 0, none⟩) (by simp <;> omega)).trans (by go_simp); replace zz1 : w9.cell? ⟨w.heap.size, 1, none⟩ = some (.int .i64 b) := (hC.cell (p := ⟨w.heap.size, 1, none⟩) (by simp <;> omega)).trans (by go_simp); replace zz2 : w9.cell? ⟨g, 0, none⟩ = some (.int .i64 off) := (hC.cell (p := ⟨g, 0, none⟩) (by simp <;> omega)).trans (by go_simp); go_simp; first | done | exact rfl | exact ⟨rfl, rfl⟩
  simp only [Act.put, List.setIfInBounds_toArray, List.set_cons_succ, List.set_cons_zero]
  refine wpQuiet_nil ?_
  intro w2 hC
  have hb2 := hC.below
  have z2 := hb2.size; (try simp at z2)
  replace y0 : g < w2.heap.size := by omega
  replace y1 : w.heap.size < w2.heap.size := by omega
  replace G : w.grownBy w2 (some g) := gb_call G hb2
  replace k0 : w2.cell? ⟨w.heap.size, 0, none⟩ = some (.int .i64 a) := (hb2.cell (p := ⟨w.heap.size, 0, none⟩) (by simp <;> omega)).trans (by go_simp); replace k1 : w2.cell? ⟨w.heap.size, 1, none⟩ = some (.int .i64 b) := (hb2.cell (p := ⟨w.heap.size, 1, none⟩) (by simp <;> omega)).trans (by go_simp)
  replace g0 : w2.cell? ⟨g, 0, none⟩ = some (.int .i64 off) := (hb2.cell (p := ⟨g, 0, none⟩) (by simp <;> omega)).trans (by go_simp)
  replace q0 : w2.cell? ⟨g, 1, none⟩ = some (.int .i64 la) := (hb2.cell (p := ⟨g, 1, none⟩) (by simp <;> omega)).trans (by go_simp); replace q0f : w2.frozen? ⟨g, 1, none⟩ = false := (hb2.frozen (p := ⟨g, 1, none⟩) (by simp <;> omega)).trans (by go_simp); replace q1 : w2.cell? ⟨g, 2, none⟩ = some (.int .i64 lb) := (hb2.cell (p := ⟨g, 2, none⟩) (by simp <;> omega)).trans (by go_simp); replace q1f : w2.frozen? ⟨g, 2, none⟩ = false := (hb2.frozen (p := ⟨g, 2, none⟩) (by simp <;> omega)).trans (by go_simp)
  clear hC hb2
  go_wp2_with fail
  refine wp_region_below (by kernel_rfl) (by kernel_rfl) ?_
  refine quiet_ext ?_; apply Exists.intro; refine ⟨fun w9 hC => ?_, ?_⟩
  · replace zz0 : w9.cell? ⟨w.heap.size, 0, none⟩ = some (.int .i64 a) := (hC.cell (p := ⟨w.heap.size, 0, none⟩) (by simp <;> omega)).trans (by go_simp); replace zz1 : w9.cell? ⟨w.heap.size, 1, none⟩ = some (.int .i64 b) := (hC.cell (p := ⟨w.heap.size, 1, none⟩) (by simp <;> omega)).trans (by go_simp); replace zz2 : w9.cell? ⟨g, 0, none⟩ = some (.int .i64 off) := (hC.cell (p := ⟨g, 0, none⟩) (by simp <;> omega)).trans (by go_simp); replace zz3 : w9.cell? ⟨g, 1, none⟩ = some (.int .i64 la) := (hC.cell (p := ⟨g, 1, none⟩) (by simp <;> omega)).trans (by go_simp); replace zz4 : w9.cell? ⟨g, 2, none⟩ = some (.int .i64 lb) := (hC.cell (p := ⟨g, 2, none⟩) (by simp <;> omega)).trans (by go_simp); go_simp; first | done | exact rfl | exact ⟨rfl, rfl⟩
  simp only [Act.put, List.setIfInBounds_toArray, List.set_cons_succ, List.set_cons_zero]
  refine quiet_ext ?_; apply Exists.intro; refine ⟨fun w9 hC => ?_, ?_⟩
  · replace zz0 : w9.cell? ⟨w.heap.size, 0, none⟩ = some (.int .i64 a) := (hC.cell (p := ⟨w.heap.size, 0, none⟩) (by simp <;> omega)).trans (by go_simp); replace zz1 : w9.cell? ⟨w.heap.size, 1, none⟩ = some (.int .i64 b) := (hC.cell (p := ⟨w.heap.size, 1, none⟩) (by simp <;> omega)).trans (by go_simp); replace zz2 : w9.cell? ⟨g, 0, none⟩ = some (.int .i64 off) := (hC.cell (p := ⟨g, 0, none⟩) (by simp <;> omega)).trans (by go_simp); replace zz3 : w9.cell? ⟨g, 1, none⟩ = some (.int .i64 la) := (hC.cell (p := ⟨g, 1, none⟩) (by simp <;> omega)).trans (by go_simp); replace zz4 : w9.cell? ⟨g, 2, none⟩ = some (.int .i64 lb) := (hC.cell (p := ⟨g, 2, none⟩) (by simp <;> omega)).trans (by go_simp); go_simp; first | done | exact rfl | exact ⟨rfl, rfl⟩
  simp only [Act.put, List.setIfInBounds_toArray, List.set_cons_succ, List.set_cons_zero]
  refine quiet_ext ?_; apply Exists.intro; refine ⟨fun w9 hC => ?_, ?_⟩
  · replace zz0 : w9.cell? ⟨w.heap.size, 0, none⟩ = some (.int .i64 a) := (hC.cell (p := ⟨w.heap.size, 0, none⟩) (by simp <;> omega)).trans (by go_simp); replace zz1 : w9.cell? ⟨w.heap.size, 1, none⟩ = some (.int .i64 b) := (hC.cell (p := ⟨w.heap.size, 1, none⟩) (by simp <;> omega)).trans (by go_simp); replace zz2 : w9.cell? ⟨g, 0, none⟩ = some (.int .i64 off) := (hC.cell (p := ⟨g, 0, none⟩) (by simp <;> omega)).trans (by go_simp); replace zz3 : w9.cell? ⟨g, 1, none⟩ = some (.int .i64 la) := (hC.cell (p := ⟨g, 1, none⟩) (by simp <;> omega)).trans (by go_simp); replace zz4 : w9.cell? ⟨g, 2, none⟩ = some (.int .i64 lb) := (hC.cell (p := ⟨g, 2, none⟩) (by simp <;> omega)).trans (by go_simp); go_simp; first | done | exact rfl | exact ⟨rfl, rfl⟩
  simp only [Act.put, List.setIfInBounds_toArray, List.set_cons_succ, List.set_cons_zero]
  refine quiet_ext ?_; apply Exists.intro; refine ⟨fun w9 hC => ?_, ?_⟩
  · replace zz0 : w9.cell? ⟨w.heap.size, 0, none⟩ = some (.int .i64 a) := (hC.cell (p := ⟨w.heap.size, 0, none⟩) (by simp <;> omega)).trans (by go_simp); replace zz1 : w9.cell? ⟨w.heap.size, 1, none⟩ = some (.int .i64 b) := (hC.cell (p := ⟨w.heap.size, 1, none⟩) (by simp <;> omega)).trans (by go_simp); replace zz2 : w9.cell? ⟨g, 0, none⟩ = some (.int .i64 off) := (hC.cell (p := ⟨g, 0, none⟩) (by simp <;> omega)).trans (by go_simp); replace zz3 : w9.cell? ⟨g, 1, none⟩ = some (.int .i64 la) := (hC.cell (p := ⟨g, 1, none⟩) (by simp <;> omega)).trans (by go_simp); replace zz4 : w9.cell? ⟨g, 2, none⟩ = some (.int .i64 lb) := (hC.cell (p := ⟨g, 2, none⟩) (by simp <;> omega)).trans (by go_simp); go_simp; first | done | exact rfl | exact ⟨rfl, rfl⟩
  simp only [Act.put, List.setIfInBounds_toArray, List.set_cons_succ, List.set_cons_zero]
  refine quiet_ext ?_; apply Exists.intro; refine ⟨fun w9 hC => ?_, ?_⟩
  · replace zz0 : w9.cell? ⟨w.heap.size, 0, none⟩ = some (.int .i64 a) := (hC.cell (p := ⟨w.heap.size, 0, none⟩) (by simp <;> omega)).trans (by go_simp); replace zz1 : w9.cell? ⟨w.heap.size, 1, none⟩ = some (.int .i64 b) := (hC.cell (p := ⟨w.heap.size, 1, none⟩) (by simp <;> omega)).trans (by go_simp); replace zz2 : w9.cell? ⟨g, 0, none⟩ = some (.int .i64 off) := (hC.cell (p := ⟨g, 0, none⟩) (by simp <;> omega)).trans (by go_simp); replace zz3 : w9.cell? ⟨g, 1, none⟩ = some (.int .i64 la) := (hC.cell (p := ⟨g, 1, none⟩) (by simp <;> omega)).trans (by go_simp); replace zz4 : w9.cell? ⟨g, 2, none⟩ = some (.int .i64 lb) := (hC.cell (p := ⟨g, 2, none⟩) (by simp <;> omega)).trans (by go_simp); go_simp; first | done | exact rfl | exact ⟨rfl, rfl⟩
  simp only [Act.put, List.setIfInBounds_toArray, List.set_cons_succ, List.set_cons_zero]
  refine quiet_ext ?_; apply Exists.intro; refine ⟨fun w9 hC => ?_, ?_⟩
  · replace zz0 : w9.cell? ⟨w.heap.size, 0, none⟩ = some (.int .i64 a) := (hC.cell (p := ⟨w.heap.size, 0, none⟩) (by simp <;> omega)).trans (by go_simp); replace zz1 : w9.cell? ⟨w.heap.size, 1, none⟩ = some (.int .i64 b) := (hC.cell (p := ⟨w.heap.size, 1, none⟩) (by simp <;> omega)).trans (by go_simp); replace zz2 : w9.cell? ⟨g, 0, none⟩ = some (.int .i64 off) := (hC.cell (p := ⟨g, 0, none⟩) (by simp <;> omega)).trans (by go_simp); replace zz3 : w9.cell? ⟨g, 1, none⟩ = some (.int .i64 la) := (hC.cell (p := ⟨g, 1, none⟩) (by simp <;> omega)).trans (by go_simp); replace zz4 : w9.cell? ⟨g, 2, none⟩ = some (.int .i64 lb) := (hC.cell (p := ⟨g, 2, none⟩) (by simp <;> omega)).trans (by go_simp); go_simp; exact (compare_any a b la lb _).mono fun _ _ h => ⟨h.1, ext_call hC h.2⟩
  simp only [Act.put, List.setIfInBounds_toArray, List.set_cons_succ, List.set_cons_zero]
  refine quiet_ext ?_; apply Exists.intro; refine ⟨fun w9 hC => ?_, ?_⟩
  · replace zz0 : w9.cell? ⟨w.heap.size, 0, none⟩ = some (.int .i64 a) := (hC.cell (p := ⟨w.heap.size, 0, none⟩) (by simp <;> omega)).trans (by go_simp); replace zz1 : w9.cell? ⟨w.heap.size, 1, none⟩ = some (.int .i64 b) := (hC.cell (p := ⟨w.heap.size, 1, none⟩) (by simp <;> omega)).trans (by go_simp); replace zz2 : w9.cell? ⟨g, 0, none⟩ = some (.int .i64 off) := (hC.cell (p := ⟨g, 0, none⟩) (by simp <;> omega)).trans (by go_simp); replace zz3 : w9.cell? ⟨g, 1, none⟩ = some (.int .i64 la) := (hC.cell (p := ⟨g, 1, none⟩) (by simp <;> omega)).trans (by go_simp); replace zz4 : w9.cell? ⟨g, 2, none⟩ = some (.int .i64 lb) := (hC.cell (p := ⟨g, 2, none⟩) (by simp <;> omega)).trans (by go_simp); go_simp; first | done | exact rfl | exact ⟨rfl, rfl⟩
  simp only [Act.put, List.setIfInBounds_toArray, List.set_cons_succ, List.set_cons_zero]
  refine quiet_ext ?_; apply Exists.intro; refine ⟨fun w9 hC => ?_, ?_⟩
  · replace zz0 : w9.cell? ⟨w.heap.size, 0, none⟩ = some (.int .i64 a) := (hC.cell (p := ⟨w.heap.size, 0, none⟩) (by simp <;> omega)).trans (by go_simp); replace zz1 : w9.cell? ⟨w.heap.size, 1, none⟩ = some (.int .i64 b) := (hC.cell (p := ⟨w.heap.size, 1, none⟩) (by simp <;> omega)).trans (by go_simp); replace zz2 : w9.cell? ⟨g, 0, none⟩ = some (.int .i64 off) := (hC.cell (p := ⟨g, 0, none⟩) (by simp <;> omega)).trans (by go_simp); replace zz3 : w9.cell? ⟨g, 1, none⟩ = some (.int .i64 la) := (hC.cell (p := ⟨g, 1, none⟩) (by simp <;> omega)).trans (by go_simp); replace zz4 : w9.cell? ⟨g, 2, none⟩ = some (.int .i64 lb) := (hC.cell (p := ⟨g, 2, none⟩) (by simp <;> omega)).trans (by go_simp); go_simp; first | done | exact rfl | exact ⟨rfl, rfl⟩
  simp only [Act.put, List.setIfInBounds_toArray, List.set_cons_succ, List.set_cons_zero]
  refine wpQuiet_nil ?_
  intro w3 hC
  have hb3 := hC.below
  have z3 := hb3.size; (try simp at z3)
  replace y0 : g < w3.heap.size := by omega
  replace y1 : w.heap.size < w3.heap.size := by omega
  replace G : w.grownBy w3 (some g) := gb_call G hb3
  replace k0 : w3.cell? ⟨w.heap.size, 0, none⟩ = some (.int .i64 a) := (hb3.cell (p := ⟨w.heap.size, 0, none⟩) (by simp <;> omega)).trans (by go_simp); replace k1 : w3.cell? ⟨w.heap.size, 1, none⟩ = some (.int .i64 b) := (hb3.cell (p := ⟨w.heap.size, 1, none⟩) (by simp <;> omega)).trans (by go_simp)
  replace g0 : w3.cell? ⟨g, 0, none⟩ = some (.int .i64 off) := (hb3.cell (p := ⟨g, 0, none⟩) (by simp <;> omega)).trans (by go_simp)
  replace q0 : w3.cell? ⟨g, 1, none⟩ = some (.int .i64 la) := (hb3.cell (p := ⟨g, 1, none⟩) (by simp <;> omega)).trans (by go_simp); replace q0f : w3.frozen? ⟨g, 1, none⟩ = false := (hb3.frozen (p := ⟨g, 1, none⟩) (by simp <;> omega)).trans (by go_simp); replace q1 : w3.cell? ⟨g, 2, none⟩ = some (.int .i64 lb) := (hb3.cell (p := ⟨g, 2, none⟩) (by simp <;> omega)).trans (by go_simp); replace q1f : w3.frozen? ⟨g, 2, none⟩ = false := (hb3.frozen (p := ⟨g, 2, none⟩) (by simp <;> omega)).trans (by go_simp)
  clear hC hb3
  go_wp2_with fail
  go_ret
  exact ⟨rfl, ⟨by first | omega | (simp <;> omega), by go_simp, by go_simp, by go_simp, by go_simp, by go_simp⟩, (by repeat' (first | (with_reducible exact gb_refl _ _) | (with_reducible assumption) | (with_reducible refine gb_set ?_ ?_ _) | (with_reducible refine gb_alloc ?_ _) | (with_reducible refine gb_drew ?_) | (with_reducible refine gb_call ?_ (by assumption)) | exact .inl rfl | exact .inr (by simp <;> omega)))⟩

set_option maxHeartbeats 1000000 in
theorem learn4 (g : Nat) (off la lb a b t : Int) (w : World) (h : Clk w g off la lb) (ht : isWall t = true) (hr : right a b = true) (ho : isWall off = true) (hf : a - t ≤ off)  (hc : cmpS a b la lb ≤ 0) :
    Calls Try.prog 26 #[.pointer (some ⟨g, 0, none⟩), .agg #[.int .i64 a, .int .i64 b], .int .i64 t] w (LearnPost g off la lb a b t w) := by
  have e1 : learnE off a b t = 0 := by unfold learnE; rw [if_neg (by simp [ht]), if_neg (by simp [hr]), if_neg (by omega)]
  have e2 : learnL off la lb a b t = (la, lb) := by unfold learnL; rw [e1, if_neg (by omega)]
  unfold LearnPost
  rw [e1, e2]
  clear e1 e2
  have hbd := right_iff.1 hr
  have hbt : 0 ≤ t ∧ t ≤ 9007199254740991 := by simpa [isWall] using ht
  have hbo : 0 ≤ off ∧ off ≤ 9007199254740991 := by simpa [isWall] using ho
  have hw := IntWalk.i64_in (a - t) (by omega)
  have hf1 : decide (off < a - t) = false := by simp; omega
  have hc1 : decide (0 < cmpS a b la lb) = false := by simp; omega
  clear hf ho hc
  have ht1 : (!isWall t) = false := by simp [ht]
  have hr1 : (!right a b) = false := by simp [hr]
  clear ht hr
  obtain ⟨lt, c0, c1, c2, f1, f2⟩ := h
  go_enter Try.func26, Try.ntmps26
  go_wp2_with (go_at_call 32; refine (wall_any _ _).mono ?_; rintro e w' ⟨rfl, rfl⟩)
  refine (right_any a b _).mono ?_
  rintro e w1 ⟨rfl, hb1⟩
  have z := hb1.size; (try simp at z)
  have y0 : g < w1.heap.size := by omega
  have y1 : w.heap.size < w1.heap.size := by omega
  have G : w.grownBy w1 (some g) := (by repeat' (first | (with_reducible exact gb_refl _ _) | (with_reducible assumption) | (with_reducible refine gb_set ?_ ?_ _) | (with_reducible refine gb_alloc ?_ _) | (with_reducible refine gb_drew ?_) | (with_reducible refine gb_call ?_ (by assumption)) | exact .inl rfl | exact .inr (by simp <;> omega)))
  replace k0 : w1.cell? ⟨w.heap.size, 0, none⟩ = some (.int .i64 a) := (hb1.cell (p := ⟨w.heap.size, 0, none⟩) (by simp <;> omega)).trans (by go_simp); replace k1 : w1.cell? ⟨w.heap.size, 1, none⟩ = some (.int .i64 b) := (hb1.cell (p := ⟨w.heap.size, 1, none⟩) (by simp <;> omega)).trans (by go_simp)
  replace g0 : w1.cell? ⟨g, 0, none⟩ = some (.int .i64 off) := (hb1.cell (p := ⟨g, 0, none⟩) (by simp <;> omega)).trans (by go_simp)
  replace q0 : w1.cell? ⟨g, 1, none⟩ = some (.int .i64 la) := (hb1.cell (p := ⟨g, 1, none⟩) (by simp <;> omega)).trans (by go_simp); replace q0f : w1.frozen? ⟨g, 1, none⟩ = false := (hb1.frozen (p := ⟨g, 1, none⟩) (by simp <;> omega)).trans (by go_simp); replace q1 : w1.cell? ⟨g, 2, none⟩ = some (.int .i64 lb) := (hb1.cell (p := ⟨g, 2, none⟩) (by simp <;> omega)).trans (by go_simp); replace q1f : w1.frozen? ⟨g, 2, none⟩ = false := (hb1.frozen (p := ⟨g, 2, none⟩) (by simp <;> omega)).trans (by go_simp)
  clear hb1 c0 c1 c2 f1 f2
  go_wp2_with fail
  refine wp_region_below (by kernel_rfl) (by kernel_rfl) ?_
  refine quiet_ext ?_; apply Exists.intro; refine ⟨fun w9 hC => ?_, ?_⟩
  · replace zz0 : w9.cell? ⟨w.heap.size, 0, none⟩ = some (.int .i64 a) := (hC.cell (p := ⟨w.heap.size, 0, none⟩) (by simp <;> omega)).trans (by go_simp); replace zz1 : w9.cell? ⟨w.heap.size, 1, none⟩ = some (.int .i64 b) := (hC.cell (p := ⟨w.heap.size, 1, none⟩) (by simp <;> omega)).trans (by go_simp); replace zz2 : w9.cell? ⟨g, 0, none⟩ = some (.int .i64 off) := (hC.cell (p := ⟨g, 0, none⟩) (by simp <;> omega)).trans (by go_simp); go_simp; first | done | exact rfl | exact ⟨rfl, rfl⟩
  simp only [Act.put, List.setIfInBounds_toArray, List.set_cons_succ, List.set_cons_zero]
  refine quiet_ext ?_; apply Exists.intro; refine ⟨fun w9 hC => ?_, ?_⟩
  · replace zz0 : w9.cell? ⟨w.heap.size, 0, none⟩ = some (.int .i64 a) := (hC.cell (p := ⟨w.heap.size, 0, none⟩) (by simp <;> omega)).trans (by go_simp); replace zz1 : w9.cell? ⟨w.heap.size, 1, none⟩ = some (.int .i64 b) := (hC.cell (p := ⟨w.heap.size, 1, none⟩) (by simp <;> omega)).trans (by go_simp); replace zz2 : w9.cell? ⟨g, 0, none⟩ = some (.int .i64 off) := (hC.cell (p := ⟨g, 0, none⟩) (by simp <;> omega)).trans (by go_simp); go_simp; first | done | exact rfl | exact ⟨rfl, rfl⟩
  simp only [Act.put, List.setIfInBounds_toArray, List.set_cons_succ, List.set_cons_zero]
  refine quiet_ext ?_; apply Exists.intro; refine ⟨fun w9 hC => ?_, ?_⟩
  · replace zz0 : w9.cell? ⟨w.heap.size, 0, none⟩ = some (.int .i64 a) := (hC.cell (p := ⟨w.heap.size, 0, none⟩) (by simp <;> omega)).trans (by go_simp); replace zz1 : w9.cell? ⟨w.heap.size, 1, none⟩ = some (.int .i64 b) := (hC.cell (p := ⟨w.heap.size, 1, none⟩) (by simp <;> omega)).trans (by go_simp); replace zz2 : w9.cell? ⟨g, 0, none⟩ = some (.int .i64 off) := (hC.cell (p := ⟨g, 0, none⟩) (by simp <;> omega)).trans (by go_simp); go_simp; first | done | exact rfl | exact ⟨rfl, rfl⟩
  simp only [Act.put, List.setIfInBounds_toArray, List.set_cons_succ, List.set_cons_zero]
  refine quiet_ext ?_; apply Exists.intro; refine ⟨fun w9 hC => ?_, ?_⟩
  · replace zz0 : w9.cell? ⟨w.heap.size, 0, none⟩ = some (.int .i64 a) := (hC.cell (p := ⟨w.heap.size, 0, none⟩) (by simp <;> omega)).trans (by go_simp); replace zz1 : w9.cell? ⟨w.heap.size, 1, none⟩ = some (.int .i64 b) := (hC.cell (p := ⟨w.heap.size, 1, none⟩) (by simp <;> omega)).trans (by go_simp); replace zz2 : w9.cell? ⟨g, 0, none⟩ = some (.int .i64 off) := (hC.cell (p := ⟨g, 0, none⟩) (by simp <;> omega)).trans (by go_simp); go_simp; first | done | exact rfl | exact ⟨rfl, rfl⟩
  simp only [Act.put, List.setIfInBounds_toArray, List.set_cons_succ, List.set_cons_zero]
  refine quiet_ext ?_; apply Exists.intro; refine ⟨fun w9 hC => ?_, ?_⟩
  · replace zz0 : w9.cell? ⟨w.heap.size, 0, none⟩ = some (.int .i64 a) := (hC.cell (p := ⟨w.heap.size, 0, none⟩) (by simp <;> omega)).trans (by go_simp); replace zz1 : w9.cell? ⟨w.heap.size, 1, none⟩ = some (.int .i64 b) := (hC.cell (p := ⟨w.heap.size, 1, none⟩) (by simp <;> omega)).trans (by go_simp); replace zz2 : w9.cell? ⟨g, 0, none⟩ = some (.int .i64 off) := (hC.cell (p := ⟨g, 0, none⟩) (by simp <;> omega)).trans (by go_simp); go_simp; first | done | exact rfl | exact ⟨rfl, rfl⟩
  simp only [Act.put, List.setIfInBounds_toArray, List.set_cons_succ, List.set_cons_zero]
  refine quiet_ext ?_; apply Exists.intro; refine ⟨fun w9 hC => ?_, ?_⟩
  · replace zz0 : w9.cell? ⟨w.heap.size, 0, none⟩ = some (.int .i64 a) := (hC.cell (p := ⟨w.heap.size, 0, none⟩) (by simp <;> omega)).trans (by go_simp); replace zz1 : w9.cell? ⟨w.heap.size, 1, none⟩ = some (.int .i64 b) := (hC.cell (p := ⟨w.heap.size, 1, none⟩) (by simp <;> omega)).trans (by go_simp); replace zz2 : w9.cell? ⟨g, 0, none⟩ = some (.int .i64 off) := (hC.cell (p := ⟨g, 0, none⟩) (by simp <;> omega)).trans (by go_simp); go_simp; first | done | exact rfl | exact ⟨rfl, rfl⟩
  simp only [Act.put, List.setIfInBounds_toArray, List.set_cons_succ, List.set_cons_zero]
  refine quiet_ext ?_; apply Exists.intro; refine ⟨fun w9 hC => ?_, ?_⟩
  · replace zz0 : w9.cell? ⟨w.heap.size, 0, none⟩ = some (.int .i64 a) := (hC.cell (p := ⟨w.heap.size, 0, none⟩) (by simp <;> omega)).trans (by go_simp); replace zz1 : w9.cell? ⟨w.heap.size, 1, none⟩ = some (.int .i64 b) := (hC.cell (p := ⟨w.heap.size, 1, none⟩) (by simp <;> omega)).trans (by go_simp); replace zz2 : w9.cell? ⟨g, 0, none⟩ = some (.int .i64 off) := (hC.cell (p := ⟨g, 0, none⟩) (by simp <;> omega)).trans (by go_simp); go_simp; first | done | exact rfl | exact ⟨rfl, rfl⟩
  simp only [Act.put, List.setIfInBounds_toArray, List.set_cons_succ, List.set_cons_zero]
  refine quiet_ext ?_; apply Exists.intro; refine ⟨fun w9 hC => ?_, ?_⟩
  · replace zz0 : w9.cell? ⟨w.heap.size, 0, none⟩ = some (.int .i64 a) := (hC.cell (p := ⟨w.heap.size, 0, none⟩) (by simp <;> omega)).trans (by go_simp); replace zz1 : w9.cell? ⟨w.heap.size, 1, none⟩ = some (.int .i64 b) := (hC.cell (p := ⟨w.heap.size, 1, none⟩) (by simp <;> omega)).trans (by go_simp); replace zz2 : w9.cell? ⟨g, 0, none⟩ = some (.int .i64 off) := (hC.cell (p := ⟨g, 0, none⟩) (by simp <;> omega)).trans (by go_simp); go_simp; first | done | exact rfl | exact ⟨rfl, rfl⟩
  simp only [Act.put, List.setIfInBounds_toArray, List.set_cons_succ, List.set_cons_zero]
  refine quiet_ext ?_; apply Exists.intro; refine ⟨fun w9 hC => ?_, ?_⟩
  · replace zz0 : w9.cell? ⟨w.heap.size, 0, none⟩ = some (.int .i64 a) := (hC.cell (p := ⟨w.heap.size, 0, none⟩) (by simp <;> omega)).trans (by go_simp); replace zz1 : w9.cell? ⟨w.heap.size, 1, none⟩ = some (.int .i64 b) := (hC.cell (p := ⟨w.heap.size, 1, none⟩) (by simp <;> omega)).trans (by go_simp); replace zz2 : w9.cell? ⟨g, 0, none⟩ = some (.int .i64 off) := (hC.cell (p := ⟨g, 0, none⟩) (by simp <;> omega)).trans (by go_simp); go_simp; first | done | exact rfl | exact ⟨rfl, rfl⟩
  simp only [Act.put, List.setIfInBounds_toArray, List.set_cons_succ, List.set_cons_zero]
  refine quiet_ext ?_; apply Exists.intro; refine ⟨fun w9 hC => ?_, ?_⟩
  · replace zz0 : w9.cell? ⟨w.heap.size, 0, none⟩ = some (.int .i64 a) := (hC.cell (p := ⟨w.heap.size, 0, none⟩) (by simp <;> omega)).trans (by go_simp); replace zz1 : w9.cell? ⟨w.heap.size, 1, none⟩ = some (.int .i64 b) := (hC.cell (p := ⟨w.heap.size, 1, none⟩) (by simp <;> omega)).trans (by go_simp); replace zz2 : w9.cell? ⟨g, 0, none⟩ = some (.int .i64 off) := (hC.cell (p := ⟨g, 0, none⟩) (by simp <;> omega)).trans (by go_simp); go_simp; first | done | exact rfl | exact ⟨rfl, rfl⟩
  simp only [Act.put, List.setIfInBounds_toArray, List.set_cons_succ, List.set_cons_zero]
  refine wpQuiet_nil ?_
  intro w2 hC
  have hb2 := hC.below
  have z2 := hb2.size; (try simp at z2)
  replace y0 : g < w2.heap.size := by omega
  replace y1 : w.heap.size < w2.heap.size := by omega
  replace G : w.grownBy w2 (some g) := gb_call G hb2
  replace k0 : w2.cell? ⟨w.heap.size, 0, none⟩ = some (.int .i64 a) := (hb2.cell (p := ⟨w.heap.size, 0, none⟩) (by simp <;> omega)).trans (by go_simp); replace k1 : w2.cell? ⟨w.heap.size, 1, none⟩ = some (.int .i64 b) := (hb2.cell (p := ⟨w.heap.size, 1, none⟩) (by simp <;> omega)).trans (by go_simp)
  replace g0 : w2.cell? ⟨g, 0, none⟩ = some (.int .i64 off) := (hb2.cell (p := ⟨g, 0, none⟩) (by simp <;> omega)).trans (by go_simp)
  replace q0 : w2.cell? ⟨g, 1, none⟩ = some (.int .i64 la) := (hb2.cell (p := ⟨g, 1, none⟩) (by simp <;> omega)).trans (by go_simp); replace q0f : w2.frozen? ⟨g, 1, none⟩ = false := (hb2.frozen (p := ⟨g, 1, none⟩) (by simp <;> omega)).trans (by go_simp); replace q1 : w2.cell? ⟨g, 2, none⟩ = some (.int .i64 lb) := (hb2.cell (p := ⟨g, 2, none⟩) (by simp <;> omega)).trans (by go_simp); replace q1f : w2.frozen? ⟨g, 2, none⟩ = false := (hb2.frozen (p := ⟨g, 2, none⟩) (by simp <;> omega)).trans (by go_simp)
  clear hC hb2
  go_wp2_with fail
  refine wp_region_below (by kernel_rfl) (by kernel_rfl) ?_
  refine quiet_ext ?_; apply Exists.intro; refine ⟨fun w9 hC => ?_, ?_⟩
  · replace zz0 : w9.cell? ⟨w.heap.size, 0, none⟩ = some (.int .i64 a) := (hC.cell (p := ⟨w.heap.size, 0, none⟩) (by simp <;> omega)).trans (by go_simp); replace zz1 : w9.cell? ⟨w.heap.size, 1, none⟩ = some (.int .i64 b) := (hC.cell (p := ⟨w.heap.size, 1, none⟩) (by simp <;> omega)).trans (by go_simp); replace zz2 : w9.cell? ⟨g, 0, none⟩ = some (.int .i64 off) := (hC.cell (p := ⟨g, 0, none⟩) (by simp <;> omega)).trans (by go_simp); replace zz3 : w9.cell? ⟨g, 1, none⟩ = some (.int .i64 la) := (hC.cell (p := ⟨g, 1, none⟩) (by simp <;> omega)).trans (by go_simp); replace zz4 : w9.cell? ⟨g, 2, none⟩ = some (.int .i64 lb) := (hC.cell (p := ⟨g, 2, none⟩) (by simp <;> omega)).trans (by go_simp); go_simp; first | done | exact rfl | exact ⟨rfl, rfl⟩
  simp only [Act.put, List.setIfInBounds_toArray, List.set_cons_succ, List.set_cons_zero]
  refine quiet_ext ?_; apply Exists.intro; refine ⟨fun w9 hC => ?_, ?_⟩
  · replace zz0 : w9.cell? ⟨w.heap.size, 0, none⟩ = some (.int .i64 a) := (hC.cell (p := ⟨w.heap.size, 0, none⟩) (by simp <;> omega)).trans (by go_simp); replace zz1 : w9.cell? ⟨w.heap.size, 1, none⟩ = some (.int .i64 b) := (hC.cell (p := ⟨w.heap.size, 1, none⟩) (by simp <;> omega)).trans (by go_simp); replace zz2 : w9.cell? ⟨g, 0, none⟩ = some (.int .i64 off) := (hC.cell (p := ⟨g, 0, none⟩) (by simp <;> omega)).trans (by go_simp); replace zz3 : w9.cell? ⟨g, 1, none⟩ = some (.int .i64 la) := (hC.cell (p := ⟨g, 1, none⟩) (by simp <;> omega)).trans (by go_simp); replace zz4 : w9.cell? ⟨g, 2, none⟩ = some (.int .i64 lb) := (hC.cell (p := ⟨g, 2, none⟩) (by simp <;> omega)).trans (by go_simp); go_simp; first | done | exact rfl | exact ⟨rfl, rfl⟩
  simp only [Act.put, List.setIfInBounds_toArray, List.set_cons_succ, List.set_cons_zero]
  refine quiet_ext ?_; apply Exists.intro; refine ⟨fun w9 hC => ?_, ?_⟩
  · replace zz0 : w9.cell? ⟨w.heap.size, 0, none⟩ = some (.int .i64 a) := (hC.cell (p := ⟨w.heap.size, 0, none⟩) (by simp <;> omega)).trans (by go_simp); replace zz1 : w9.cell? ⟨w.heap.size, 1, none⟩ = some (.int .i64 b) := (hC.cell (p := ⟨w.heap.size, 1, none⟩) (by simp <;> omega)).trans (by go_simp); replace zz2 : w9.cell? ⟨g, 0, none⟩ = some (.int .i64 off) := (hC.cell (p := ⟨g, 0, none⟩) (by simp <;> omega)).trans (by go_simp); replace zz3 : w9.cell? ⟨g, 1, none⟩ = some (.int .i64 la) := (hC.cell (p := ⟨g, 1, none⟩) (by simp <;> omega)).trans (by go_simp); replace zz4 : w9.cell? ⟨g, 2, none⟩ = some (.int .i64 lb) := (hC.cell (p := ⟨g, 2, none⟩) (by simp <;> omega)).trans (by go_simp); go_simp; first | done | exact rfl | exact ⟨rfl, rfl⟩
  simp only [Act.put, List.setIfInBounds_toArray, List.set_cons_succ, List.set_cons_zero]
  refine quiet_ext ?_; apply Exists.intro; refine ⟨fun w9 hC => ?_, ?_⟩
  · replace zz0 : w9.cell? ⟨w.heap.size, 0, none⟩ = some (.int .i64 a) := (hC.cell (p := ⟨w.heap.size, 0, none⟩) (by simp <;> omega)).trans (by go_simp); replace zz1 : w9.cell? ⟨w.heap.size, 1, none⟩ = some (.int .i64 b) := (hC.cell (p := ⟨w.heap.size, 1, none⟩) (by simp <;> omega)).trans (by go_simp); replace zz2 : w9.cell? ⟨g, 0, none⟩ = some (.int .i64 off) := (hC.cell (p := ⟨g, 0, none⟩) (by simp <;> omega)).trans (by go_simp); replace zz3 : w9.cell? ⟨g, 1, none⟩ = some (.int .i64 la) := (hC.cell (p := ⟨g, 1, none⟩) (by simp <;> omega)).trans (by go_simp); replace zz4 : w9.cell? ⟨g, 2, none⟩ = some (.int .i64 lb) := (hC.cell (p := ⟨g, 2, none⟩) (by simp <;> omega)).trans (by go_simp); go_simp; first | done | exact rfl | exact ⟨rfl, rfl⟩
  simp only [Act.put, List.setIfInBounds_toArray, List.set_cons_succ, List.set_cons_zero]
  refine quiet_ext ?_; apply Exists.intro; refine ⟨fun w9 hC => ?_, ?_⟩
  · replace zz0 : w9.cell? ⟨w.heap.size, 0, none⟩ = some (.int .i64 a) := (hC.cell (p := ⟨w.heap.size, 0, none⟩) (by simp <;> omega)).trans (by go_simp); replace zz1 : w9.cell? ⟨w.heap.size, 1, none⟩ = some (.int .i64 b) := (hC.cell (p := ⟨w.heap.size, 1, none⟩) (by simp <;> omega)).trans (by go_simp); replace zz2 : w9.cell? ⟨g, 0, none⟩ = some (.int .i64 off) := (hC.cell (p := ⟨g, 0, none⟩) (by simp <;> omega)).trans (by go_simp); replace zz3 : w9.cell? ⟨g, 1, none⟩ = some (.int .i64 la) := (hC.cell (p := ⟨g, 1, none⟩) (by simp <;> omega)).trans (by go_simp); replace zz4 : w9.cell? ⟨g, 2, none⟩ = some (.int .i64 lb) := (hC.cell (p := ⟨g, 2, none⟩) (by simp <;> omega)).trans (by go_simp); go_simp; first | done | exact rfl | exact ⟨rfl, rfl⟩
  simp only [Act.put, List.setIfInBounds_toArray, List.set_cons_succ, List.set_cons_zero]
  refine quiet_ext ?_; apply Exists.intro; refine ⟨fun w9 hC => ?_, ?_⟩
  · replace zz0 : w9.cell? ⟨w.heap.size, 0, none⟩ = some (.int .i64 a) := (hC.cell (p := ⟨w.heap.size, 0, none⟩) (by simp <;> omega)).trans (by go_simp); replace zz1 : w9.cell? ⟨w.heap.size, 1, none⟩ = some (.int .i64 b) := (hC.cell (p := ⟨w.heap.size, 1, none⟩) (by simp <;> omega)).trans (by go_simp); replace zz2 : w9.cell? ⟨g, 0, none⟩ = some (.int .i64 off) := (hC.cell (p := ⟨g, 0, none⟩) (by simp <;> omega)).trans (by go_simp); replace zz3 : w9.cell? ⟨g, 1, none⟩ = some (.int .i64 la) := (hC.cell (p := ⟨g, 1, none⟩) (by simp <;> omega)).trans (by go_simp); replace zz4 : w9.cell? ⟨g, 2, none⟩ = some (.int .i64 lb) := (hC.cell (p := ⟨g, 2, none⟩) (by simp <;> omega)).trans (by go_simp); go_simp; exact (compare_any a b la lb _).mono fun _ _ h => ⟨h.1, ext_call hC h.2⟩
  simp only [Act.put, List.setIfInBounds_toArray, List.set_cons_succ, List.set_cons_zero]
  refine quiet_ext ?_; apply Exists.intro; refine ⟨fun w9 hC => ?_, ?_⟩
  · replace zz0 : w9.cell? ⟨w.heap.size, 0, none⟩ = some (.int .i64 a) := (hC.cell (p := ⟨w.heap.size, 0, none⟩) (by simp <;> omega)).trans (by go_simp); replace zz1 : w9.cell? ⟨w.heap.size, 1, none⟩ = some (.int .i64 b) := (hC.cell (p := ⟨w.heap.size, 1, none⟩) (by simp <;> omega)).trans (by go_simp); replace zz2 : w9.cell? ⟨g, 0, none⟩ = some (.int .i64 off) := (hC.cell (p := ⟨g, 0, none⟩) (by simp <;> omega)).trans (by go_simp); replace zz3 : w9.cell? ⟨g, 1, none⟩ = some (.int .i64 la) := (hC.cell (p := ⟨g, 1, none⟩) (by simp <;> omega)).trans (by go_simp); replace zz4 : w9.cell? ⟨g, 2, none⟩ = some (.int .i64 lb) := (hC.cell (p := ⟨g, 2, none⟩) (by simp <;> omega)).trans (by go_simp); go_simp; first | done | exact rfl | exact ⟨rfl, rfl⟩
  simp only [Act.put, List.setIfInBounds_toArray, List.set_cons_succ, List.set_cons_zero]
  refine quiet_ext ?_; apply Exists.intro; refine ⟨fun w9 hC => ?_, ?_⟩
  · replace zz0 : w9.cell? ⟨w.heap.size, 0, none⟩ = some (.int .i64 a) := (hC.cell (p := ⟨w.heap.size, 0, none⟩) (by simp <;> omega)).trans (by go_simp); replace zz1 : w9.cell? ⟨w.heap.size, 1, none⟩ = some (.int .i64 b) := (hC.cell (p := ⟨w.heap.size, 1, none⟩) (by simp <;> omega)).trans (by go_simp); replace zz2 : w9.cell? ⟨g, 0, none⟩ = some (.int .i64 off) := (hC.cell (p := ⟨g, 0, none⟩) (by simp <;> omega)).trans (by go_simp); replace zz3 : w9.cell? ⟨g, 1, none⟩ = some (.int .i64 la) := (hC.cell (p := ⟨g, 1, none⟩) (by simp <;> omega)).trans (by go_simp); replace zz4 : w9.cell? ⟨g, 2, none⟩ = some (.int .i64 lb) := (hC.cell (p := ⟨g, 2, none⟩) (by simp <;> omega)).trans (by go_simp); go_simp; first | done | exact rfl | exact ⟨rfl, rfl⟩
  simp only [Act.put, List.setIfInBounds_toArray, List.set_cons_succ, List.set_cons_zero]
  refine wpQuiet_nil ?_
  intro w3 hC
  have hb3 := hC.below
  have z3 := hb3.size; (try simp at z3)
  replace y0 : g < w3.heap.size := by omega
  replace y1 : w.heap.size < w3.heap.size := by omega
  replace G : w.grownBy w3 (some g) := gb_call G hb3
  replace k0 : w3.cell? ⟨w.heap.size, 0, none⟩ = some (.int .i64 a) := (hb3.cell (p := ⟨w.heap.size, 0, none⟩) (by simp <;> omega)).trans (by go_simp); replace k1 : w3.cell? ⟨w.heap.size, 1, none⟩ = some (.int .i64 b) := (hb3.cell (p := ⟨w.heap.size, 1, none⟩) (by simp <;> omega)).trans (by go_simp)
  replace g0 : w3.cell? ⟨g, 0, none⟩ = some (.int .i64 off) := (hb3.cell (p := ⟨g, 0, none⟩) (by simp <;> omega)).trans (by go_simp)
  replace q0 : w3.cell? ⟨g, 1, none⟩ = some (.int .i64 la) := (hb3.cell (p := ⟨g, 1, none⟩) (by simp <;> omega)).trans (by go_simp); replace q0f : w3.frozen? ⟨g, 1, none⟩ = false := (hb3.frozen (p := ⟨g, 1, none⟩) (by simp <;> omega)).trans (by go_simp); replace q1 : w3.cell? ⟨g, 2, none⟩ = some (.int .i64 lb) := (hb3.cell (p := ⟨g, 2, none⟩) (by simp <;> omega)).trans (by go_simp); replace q1f : w3.frozen? ⟨g, 2, none⟩ = false := (hb3.frozen (p := ⟨g, 2, none⟩) (by simp <;> omega)).trans (by go_simp)
  clear hC hb3
  go_wp2_with fail
  go_ret
  exact ⟨rfl, ⟨by first | omega | (simp <;> omega), by go_simp, by go_simp, by go_simp, by go_simp, by go_simp⟩, (by repeat' (first | (with_reducible exact gb_refl _ _) | (with_reducible assumption) | (with_reducible refine gb_set ?_ ?_ _) | (with_reducible refine gb_alloc ?_ _) | (with_reducible refine gb_drew ?_) | (with_reducible refine gb_call ?_ (by assumption)) | exact .inl rfl | exact .inr (by simp <;> omega)))⟩

theorem learn_any (g : Nat) (off la lb a b t : Int) (w : World) (h : Clk w g off la lb) (ho : isWall off = true) :
    Calls Try.prog 26 #[.pointer (some ⟨g, 0, none⟩), .agg #[.int .i64 a, .int .i64 b], .int .i64 t] w (LearnPost g off la lb a b t w) := by
  cases ht : isWall t
  · exact learn0 g off la lb a b t w h ht
  · cases hr : right a b
    · exact learn1 g off la lb a b t w h ht hr
    · by_cases hf : off < a - t
      · exact learn2 g off la lb a b t w h ht hr ho hf
      · by_cases hc : 0 < cmpS a b la lb
        · exact learn3 g off la lb a b t w h ht hr ho (by omega) hc
        · exact learn4 g off la lb a b t w h ht hr ho (by omega) (by omega)

set_option maxHeartbeats 1000000 in
theorem rlearn0 (g : Nat) (off la lb a b t : Int) (w : World) (h : Clk w g off la lb) (ht : isWall t = false) :
    Calls Try.prog 28 #[.pointer (some ⟨g, 0, none⟩), .agg #[.int .i64 a, .int .i64 b], .int .i64 t] w (LearnPost g off la lb a b t w) := by
  have e1 : learnE off a b t = 1 := by unfold learnE; rw [if_pos ht]
  have e2 : learnL off la lb a b t = (la, lb) := by unfold learnL; rw [e1, if_neg (by simp)]
  unfold LearnPost
  rw [e1, e2]
  clear e1 e2
  have ht1 : (!isWall t) = true := by simp [ht]
  clear ht
  obtain ⟨lt, c0, c1, c2, f1, f2⟩ := h
  go_enter Try.func28, Try.ntmps28
  go_wp2_with (go_at_call 23; refine (rIsWall_any _ _).mono ?_; rintro e w' ⟨rfl, rfl⟩)
  go_ret
  exact ⟨rfl, ⟨by first | omega | (simp <;> omega), by go_simp, by go_simp, by go_simp, by go_simp, by go_simp⟩, (by repeat' (first | (with_reducible exact gb_refl _ _) | (with_reducible assumption) | (with_reducible refine gb_set ?_ ?_ _) | (with_reducible refine gb_alloc ?_ _) | (with_reducible refine gb_drew ?_) | (with_reducible refine gb_call ?_ (by assumption)) | exact .inl rfl | exact .inr (by simp <;> omega)))⟩

set_option maxHeartbeats 1000000 in
theorem rlearn1 (g : Nat) (off la lb a b t : Int) (w : World) (h : Clk w g off la lb) (ht : isWall t = true) (hr : right a b = false) :
    Calls Try.prog 28 #[.pointer (some ⟨g, 0, none⟩), .agg #[.int .i64 a, .int .i64 b], .int .i64 t] w (LearnPost g off la lb a b t w) := by
  have e1 : learnE off a b t = 80 := by unfold learnE; rw [if_neg (by simp [ht]), if_pos hr]
  have e2 : learnL off la lb a b t = (la, lb) := by unfold learnL; rw [e1, if_neg (by simp)]
  unfold LearnPost
  rw [e1, e2]
  clear e1 e2
  have ht1 : (!isWall t) = false := by simp [ht]
  have hr1 : (!right a b) = true := by simp [hr]
  clear ht hr
  obtain ⟨lt, c0, c1, c2, f1, f2⟩ := h
  go_enter Try.func28, Try.ntmps28
  go_wp2_with (go_at_call 23; refine (rIsWall_any _ _).mono ?_; rintro e w' ⟨rfl, rfl⟩)
  refine (rRight_any a b _).mono ?_
  rintro e w1 ⟨rfl, hb1⟩
  have z := hb1.size; (try simp at z)
  have y0 : g < w1.heap.size := by omega
  have y1 : w.heap.size < w1.heap.size := by omega
  have G : w.grownBy w1 (some g) := (by repeat' (first | (with_reducible exact gb_refl _ _) | (with_reducible assumption) | (with_reducible refine gb_set ?_ ?_ _) | (with_reducible refine gb_alloc ?_ _) | (with_reducible refine gb_drew ?_) | (with_reducible refine gb_call ?_ (by assumption)) | exact .inl rfl | exact .inr (by simp <;> omega)))
  replace k0 : w1.cell? ⟨w.heap.size, 0, none⟩ = some (.int .i64 a) := (hb1.cell (p := ⟨w.heap.size, 0, none⟩) (by simp <;> omega)).trans (by go_simp); replace k1 : w1.cell? ⟨w.heap.size, 1, none⟩ = some (.int .i64 b) := (hb1.cell (p := ⟨w.heap.size, 1, none⟩) (by simp <;> omega)).trans (by go_simp)
  replace g0 : w1.cell? ⟨g, 0, none⟩ = some (.int .i64 off) := (hb1.cell (p := ⟨g, 0, none⟩) (by simp <;> omega)).trans (by go_simp)
  replace q0 : w1.cell? ⟨g, 1, none⟩ = some (.int .i64 la) := (hb1.cell (p := ⟨g, 1, none⟩) (by simp <;> omega)).trans (by go_simp); replace q0f : w1.frozen? ⟨g, 1, none⟩ = false := (hb1.frozen (p := ⟨g, 1, none⟩) (by simp <;> omega)).trans (by go_simp); replace q1 : w1.cell? ⟨g, 2, none⟩ = some (.int .i64 lb) := (hb1.cell (p := ⟨g, 2, none⟩) (by simp <;> omega)).trans (by go_simp); replace q1f : w1.frozen? ⟨g, 2, none⟩ = false := (hb1.frozen (p := ⟨g, 2, none⟩) (by simp <;> omega)).trans (by go_simp)
  clear hb1 c0 c1 c2 f1 f2
  go_wp2_with fail
  go_ret
  exact ⟨rfl, ⟨by first | omega | (simp <;> omega), by go_simp, by go_simp, by go_simp, by go_simp, by go_simp⟩, (by repeat' (first | (with_reducible exact gb_refl _ _) | (with_reducible assumption) | (with_reducible refine gb_set ?_ ?_ _) | (with_reducible refine gb_alloc ?_ _) | (with_reducible refine gb_drew ?_) | (with_reducible refine gb_call ?_ (by assumption)) | exact .inl rfl | exact .inr (by simp <;> omega)))⟩

set_option maxHeartbeats 1000000 in
theorem rlearn2 (g : Nat) (off la lb a b t : Int) (w : World) (h : Clk w g off la lb) (ht : isWall t = true) (hr : right a b = true) (ho : isWall off = true) (hf : off < a - t) :
    Calls Try.prog 28 #[.pointer (some ⟨g, 0, none⟩), .agg #[.int .i64 a, .int .i64 b], .int .i64 t] w (LearnPost g off la lb a b t w) := by
  have e1 : learnE off a b t = 81 := by unfold learnE; rw [if_neg (by simp [ht]), if_neg (by simp [hr]), if_pos hf]
  have e2 : learnL off la lb a b t = (la, lb) := by unfold learnL; rw [e1, if_neg (by simp)]
  unfold LearnPost
  rw [e1, e2]
  clear e1 e2
  have hbd := right_iff.1 hr
  have hbt : 0 ≤ t ∧ t ≤ 9007199254740991 := by simpa [isWall] using ht
  have hbo : 0 ≤ off ∧ off ≤ 9007199254740991 := by simpa [isWall] using ho
  have hw := IntWalk.i64_in (a - t) (by omega)
  have hf1 : decide (off < a - t) = true := by simp; omega
  have hf0 : decide (t < a) = true := by simp; omega
  clear hf ho
  have ht1 : (!isWall t) = false := by simp [ht]
  have hr1 : (!right a b) = false := by simp [hr]
  clear ht hr
  obtain ⟨lt, c0, c1, c2, f1, f2⟩ := h
  go_enter Try.func28, Try.ntmps28
  go_wp2_with (go_at_call 23; refine (rIsWall_any _ _).mono ?_; rintro e w' ⟨rfl, rfl⟩)
  refine (rRight_any a b _).mono ?_
  rintro e w1 ⟨rfl, hb1⟩
  have z := hb1.size; (try simp at z)
  have y0 : g < w1.heap.size := by omega
  have y1 : w.heap.size < w1.heap.size := by omega
  have G : w.grownBy w1 (some g) := (by repeat' (first | (with_reducible exact gb_refl _ _) | (with_reducible assumption) | (with_reducible refine gb_set ?_ ?_ _) | (with_reducible refine gb_alloc ?_ _) | (with_reducible refine gb_drew ?_) | (with_reducible refine gb_call ?_ (by assumption)) | exact .inl rfl | exact .inr (by simp <;> omega)))
  replace k0 : w1.cell? ⟨w.heap.size, 0, none⟩ = some (.int .i64 a) := (hb1.cell (p := ⟨w.heap.size, 0, none⟩) (by simp <;> omega)).trans (by go_simp); replace k1 : w1.cell? ⟨w.heap.size, 1, none⟩ = some (.int .i64 b) := (hb1.cell (p := ⟨w.heap.size, 1, none⟩) (by simp <;> omega)).trans (by go_simp)
  replace g0 : w1.cell? ⟨g, 0, none⟩ = some (.int .i64 off) := (hb1.cell (p := ⟨g, 0, none⟩) (by simp <;> omega)).trans (by go_simp)
  replace q0 : w1.cell? ⟨g, 1, none⟩ = some (.int .i64 la) := (hb1.cell (p := ⟨g, 1, none⟩) (by simp <;> omega)).trans (by go_simp); replace q0f : w1.frozen? ⟨g, 1, none⟩ = false := (hb1.frozen (p := ⟨g, 1, none⟩) (by simp <;> omega)).trans (by go_simp); replace q1 : w1.cell? ⟨g, 2, none⟩ = some (.int .i64 lb) := (hb1.cell (p := ⟨g, 2, none⟩) (by simp <;> omega)).trans (by go_simp); replace q1f : w1.frozen? ⟨g, 2, none⟩ = false := (hb1.frozen (p := ⟨g, 2, none⟩) (by simp <;> omega)).trans (by go_simp)
  clear hb1 c0 c1 c2 f1 f2
  go_wp2_with fail
  refine wp_region_below (by kernel_rfl) (by kernel_rfl) ?_
  refine quiet_ext ?_; apply Exists.intro; refine ⟨fun w9 hC => ?_, ?_⟩
  · replace zz0 : w9.cell? ⟨w.heap.size, 0, none⟩ = some (.int .i64 a) := (hC.cell (p := ⟨w.heap.size, 0, none⟩) (by simp <;> omega)).trans (by go_simp); replace zz1 : w9.cell? ⟨w.heap.size, 1, none⟩ = some (.int .i64 b) := (hC.cell (p := ⟨w.heap.size, 1, none⟩) (by simp <;> omega)).trans (by go_simp); replace zz2 : w9.cell? ⟨g, 0, none⟩ = some (.int .i64 off) := (hC.cell (p := ⟨g, 0, none⟩) (by simp <;> omega)).trans (by go_simp); go_simp; first | done | exact rfl | exact ⟨rfl, rfl⟩
  simp only [Act.put, List.setIfInBounds_toArray, List.set_cons_succ, List.set_cons_zero]
  refine quiet_ext ?_; apply Exists.intro; refine ⟨fun w9 hC => ?_, ?_⟩
  · replace zz0 : w9.cell? ⟨w.heap.size, 0, none⟩ = some (.int .i64 a) := (hC.cell (p := ⟨w.heap.size, 0, none⟩) (by simp <;> omega)).trans (by go_simp); replace zz1 : w9.cell? ⟨w.heap.size, 1, none⟩ = some (.int .i64 b) := (hC.cell (p := ⟨w.heap.size, 1, none⟩) (by simp <;> omega)).trans (by go_simp); replace zz2 : w9.cell? ⟨g, 0, none⟩ = some (.int .i64 off) := (hC.cell (p := ⟨g, 0, none⟩) (by simp <;> omega)).trans (by go_simp); go_simp; first | done | exact rfl | exact ⟨rfl, rfl⟩
  simp only [Act.put, List.setIfInBounds_toArray, List.set_cons_succ, List.set_cons_zero]
  refine quiet_ext ?_; apply Exists.intro; refine ⟨fun w9 hC => ?_, ?_⟩
  · replace zz0 : w9.cell? ⟨w.heap.size, 0, none⟩ = some (.int .i64 a) := (hC.cell (p := ⟨w.heap.size, 0, none⟩) (by simp <;> omega)).trans (by go_simp); replace zz1 : w9.cell? ⟨w.heap.size, 1, none⟩ = some (.int .i64 b) := (hC.cell (p := ⟨w.heap.size, 1, none⟩) (by simp <;> omega)).trans (by go_simp); replace zz2 : w9.cell? ⟨g, 0, none⟩ = some (.int .i64 off) := (hC.cell (p := ⟨g, 0, none⟩) (by simp <;> omega)).trans (by go_simp); go_simp; first | done | exact rfl | exact ⟨rfl, rfl⟩
  simp only [Act.put, List.setIfInBounds_toArray, List.set_cons_succ, List.set_cons_zero]
  refine quiet_ext ?_; apply Exists.intro; refine ⟨fun w9 hC => ?_, ?_⟩
  · replace zz0 : w9.cell? ⟨w.heap.size, 0, none⟩ = some (.int .i64 a) := (hC.cell (p := ⟨w.heap.size, 0, none⟩) (by simp <;> omega)).trans (by go_simp); replace zz1 : w9.cell? ⟨w.heap.size, 1, none⟩ = some (.int .i64 b) := (hC.cell (p := ⟨w.heap.size, 1, none⟩) (by simp <;> omega)).trans (by go_simp); replace zz2 : w9.cell? ⟨g, 0, none⟩ = some (.int .i64 off) := (hC.cell (p := ⟨g, 0, none⟩) (by simp <;> omega)).trans (by go_simp); go_simp; first | done | exact rfl | exact ⟨rfl, rfl⟩
  simp only [Act.put, List.setIfInBounds_toArray, List.set_cons_succ, List.set_cons_zero]
  refine quiet_ext ?_; apply Exists.intro; refine ⟨fun w9 hC => ?_, ?_⟩
  · replace zz0 : w9.cell? ⟨w.heap.size, 0, none⟩ = some (.int .i64 a) := (hC.cell (p := ⟨w.heap.size, 0, none⟩) (by simp <;> omega)).trans (by go_simp); replace zz1 : w9.cell? ⟨w.heap.size, 1, none⟩ = some (.int .i64 b) := (hC.cell (p := ⟨w.heap.size, 1, none⟩) (by simp <;> omega)).trans (by go_simp); replace zz2 : w9.cell? ⟨g, 0, none⟩ = some (.int .i64 off) := (hC.cell (p := ⟨g, 0, none⟩) (by simp <;> omega)).trans (by go_simp); go_simp; first | done | exact rfl | exact ⟨rfl, rfl⟩
  simp only [Act.put, List.setIfInBounds_toArray, List.set_cons_succ, List.set_cons_zero]
  refine quiet_ext ?_; apply Exists.intro; refine ⟨fun w9 hC => ?_, ?_⟩
  · replace zz0 : w9.cell? ⟨w.heap.size, 0, none⟩ = some (.int .i64 a) := (hC.cell (p := ⟨w.heap.size, 0, none⟩) (by simp <;> omega)).trans (by go_simp); replace zz1 : w9.cell? ⟨w.heap.size, 1, none⟩ = some (.int .i64 b) := (hC.cell (p := ⟨w.heap.size, 1, none⟩) (by simp <;> omega)).trans (by go_simp); replace zz2 : w9.cell? ⟨g, 0, none⟩ = some (.int .i64 off) := (hC.cell (p := ⟨g, 0, none⟩) (by simp <;> omega)).trans (by go_simp); go_simp; first | done | exact rfl | exact ⟨rfl, rfl⟩
  simp only [Act.put, List.setIfInBounds_toArray, List.set_cons_succ, List.set_cons_zero]
  refine quiet_ext ?_; apply Exists.intro; refine ⟨fun w9 hC => ?_, ?_⟩
  · replace zz0 : w9.cell? ⟨w.heap.size, 0, none⟩ = some (.int .i64 a) := (hC.cell (p := ⟨w.heap.size, 0, none⟩) (by simp <;> omega)).trans (by go_simp); replace zz1 : w9.cell? ⟨w.heap.size, 1, none⟩ = some (.int .i64 b) := (hC.cell (p := ⟨w.heap.size, 1, none⟩) (by simp <;> omega)).trans (by go_simp); replace zz2 : w9.cell? ⟨g, 0, none⟩ = some (.int .i64 off) := (hC.cell (p := ⟨g, 0, none⟩) (by simp <;> omega)).trans (by go_simp); go_simp; first | done | exact rfl | exact ⟨rfl, rfl⟩
  simp only [Act.put, List.setIfInBounds_toArray, List.set_cons_succ, List.set_cons_zero]
  refine quiet_ext ?_; apply Exists.intro; refine ⟨fun w9 hC => ?_, ?_⟩
  · replace zz0 : w9.cell? ⟨w.heap.size, 0, none⟩ = some (.int .i64 a) := (hC.cell (p := ⟨w.heap.size, 0, none⟩) (by simp <;> omega)).trans (by go_simp); replace zz1 : w9.cell? ⟨w.heap.size, 1, none⟩ = some (.int .i64 b) := (hC.cell (p := ⟨w.heap.size, 1, none⟩) (by simp <;> omega)).trans (by go_simp); replace zz2 : w9.cell? ⟨g, 0, none⟩ = some (.int .i64 off) := (hC.cell (p := ⟨g, 0, none⟩) (by simp <;> omega)).trans (by go_simp); go_simp; first | done | exact rfl | exact ⟨rfl, rfl⟩
  simp only [Act.put, List.setIfInBounds_toArray, List.set_cons_succ, List.set_cons_zero]
  refine quiet_ext ?_; apply Exists.intro; refine ⟨fun w9 hC => ?_, ?_⟩
  · replace zz0 : w9.cell? ⟨w.heap.size, 0, none⟩ = some (.int .i64 a) := (hC.cell (p := ⟨w.heap.size, 0, none⟩) (by simp <;> omega)).trans (by go_simp); replace zz1 : w9.cell? ⟨w.heap.size, 1, none⟩ = some (.int .i64 b) := (hC.cell (p := ⟨w.heap.size, 1, none⟩) (by simp <;> omega)).trans (by go_simp); replace zz2 : w9.cell? ⟨g, 0, none⟩ = some (.int .i64 off) := (hC.cell (p := ⟨g, 0, none⟩) (by simp <;> omega)).trans (by go_simp); go_simp; first | done | exact rfl | exact ⟨rfl, rfl⟩
  simp only [Act.put, List.setIfInBounds_toArray, List.set_cons_succ, List.set_cons_zero]
  refine quiet_ext ?_; apply Exists.intro; refine ⟨fun w9 hC => ?_, ?_⟩
  · replace zz0 : w9.cell? ⟨w.heap.size, 0, none⟩ = some (.int .i64 a) := (hC.cell (p := ⟨w.heap.size, 0, none⟩) (by simp <;> omega)).trans (by go_simp); replace zz1 : w9.cell? ⟨w.heap.size, 1, none⟩ = some (.int .i64 b) := (hC.cell (p := ⟨w.heap.size, 1, none⟩) (by simp <;> omega)).trans (by go_simp); replace zz2 : w9.cell? ⟨g, 0, none⟩ = some (.int .i64 off) := (hC.cell (p := ⟨g, 0, none⟩) (by simp <;> omega)).trans (by go_simp); go_simp; first | done | exact rfl | exact ⟨rfl, rfl⟩
  simp only [Act.put, List.setIfInBounds_toArray, List.set_cons_succ, List.set_cons_zero]
  refine quiet_ext ?_; apply Exists.intro; refine ⟨fun w9 hC => ?_, ?_⟩
  · replace zz0 : w9.cell? ⟨w.heap.size, 0, none⟩ = some (.int .i64 a) := (hC.cell (p := ⟨w.heap.size, 0, none⟩) (by simp <;> omega)).trans (by go_simp); replace zz1 : w9.cell? ⟨w.heap.size, 1, none⟩ = some (.int .i64 b) := (hC.cell (p := ⟨w.heap.size, 1, none⟩) (by simp <;> omega)).trans (by go_simp); replace zz2 : w9.cell? ⟨g, 0, none⟩ = some (.int .i64 off) := (hC.cell (p := ⟨g, 0, none⟩) (by simp <;> omega)).trans (by go_simp); go_simp; first | done | exact rfl | exact ⟨rfl, rfl⟩
  simp only [Act.put, List.setIfInBounds_toArray, List.set_cons_succ, List.set_cons_zero]
  refine quiet_ext ?_; apply Exists.intro; refine ⟨fun w9 hC => ?_, ?_⟩
  · replace zz0 : w9.cell? ⟨w.heap.size, 0, none⟩ = some (.int .i64 a) := (hC.cell (p := ⟨w.heap.size, 0, none⟩) (by simp <;> omega)).trans (by go_simp); replace zz1 : w9.cell? ⟨w.heap.size, 1, none⟩ = some (.int .i64 b) := (hC.cell (p := ⟨w.heap.size, 1, none⟩) (by simp <;> omega)).trans (by go_simp); replace zz2 : w9.cell? ⟨g, 0, none⟩ = some (.int .i64 off) := (hC.cell (p := ⟨g, 0, none⟩) (by simp <;> omega)).trans (by go_simp); go_simp; first | done | exact rfl | exact ⟨rfl, rfl⟩
  simp only [Act.put, List.setIfInBounds_toArray, List.set_cons_succ, List.set_cons_zero]
  refine quiet_ext ?_; apply Exists.intro; refine ⟨fun w9 hC => ?_, ?_⟩
  · replace zz0 : w9.cell? ⟨w.heap.size, 0, none⟩ = some (.int .i64 a) := (hC.cell (p := ⟨w.heap.size, 0, none⟩) (by simp <;> omega)).trans (by go_simp); replace zz1 : w9.cell? ⟨w.heap.size, 1, none⟩ = some (.int .i64 b) := (hC.cell (p := ⟨w.heap.size, 1, none⟩) (by simp <;> omega)).trans (by go_simp); replace zz2 : w9.cell? ⟨g, 0, none⟩ = some (.int .i64 off) := (hC.cell (p := ⟨g, 0, none⟩) (by simp <;> omega)).trans (by go_simp); go_simp; first | done | exact rfl | exact ⟨rfl, rfl⟩
  simp only [Act.put, List.setIfInBounds_toArray, List.set_cons_succ, List.set_cons_zero]
  refine quiet_ext ?_; apply Exists.intro; refine ⟨fun w9 hC => ?_, ?_⟩
  · replace zz0 : w9.cell? ⟨w.heap.size, 0, none⟩ = some (.int .i64 a) := (hC.cell (p := ⟨w.heap.size, 0, none⟩) (by simp <;> omega)).trans (by go_simp); replace zz1 : w9.cell? ⟨w.heap.size, 1, none⟩ = some (.int .i64 b) := (hC.cell (p := ⟨w.heap.size, 1, none⟩) (by simp <;> omega)).trans (by go_simp); replace zz2 : w9.cell? ⟨g, 0, none⟩ = some (.int .i64 off) := (hC.cell (p := ⟨g, 0, none⟩) (by simp <;> omega)).trans (by go_simp); go_simp; first | done | exact rfl | exact ⟨rfl, rfl⟩
  simp only [Act.put, List.setIfInBounds_toArray, List.set_cons_succ, List.set_cons_zero]
  refine quiet_ext ?_; apply Exists.intro; refine ⟨fun w9 hC => ?_, ?_⟩
  · replace zz0 : w9.cell? ⟨w.heap.size, 0, none⟩ = some (.int .i64 a) := (hC.cell (p := ⟨w.heap.size, 0, none⟩) (by simp <;> omega)).trans (by go_simp); replace zz1 : w9.cell? ⟨w.heap.size, 1, none⟩ = some (.int .i64 b) := (hC.cell (p := ⟨w.heap.size, 1, none⟩) (by simp <;> omega)).trans (by go_simp); replace zz2 : w9.cell? ⟨g, 0, none⟩ = some (.int .i64 off) := (hC.cell (p := ⟨g, 0, none⟩) (by simp <;> omega)).trans (by go_simp); go_simp; first | done | exact rfl | exact ⟨rfl, rfl⟩
  simp only [Act.put, List.setIfInBounds_toArray, List.set_cons_succ, List.set_cons_zero]
  refine wpQuiet_nil ?_
  intro w2 hC
  have hb2 := hC.below
  have z2 := hb2.size; (try simp at z2)
  replace y0 : g < w2.heap.size := by omega
  replace y1 : w.heap.size < w2.heap.size := by omega
  replace G : w.grownBy w2 (some g) := gb_call G hb2
  replace k0 : w2.cell? ⟨w.heap.size, 0, none⟩ = some (.int .i64 a) := (hb2.cell (p := ⟨w.heap.size, 0, none⟩) (by simp <;> omega)).trans (by go_simp); replace k1 : w2.cell? ⟨w.heap.size, 1, none⟩ = some (.int .i64 b) := (hb2.cell (p := ⟨w.heap.size, 1, none⟩) (by simp <;> omega)).trans (by go_simp)
  replace g0 : w2.cell? ⟨g, 0, none⟩ = some (.int .i64 off) := (hb2.cell (p := ⟨g, 0, none⟩) (by simp <;> omega)).trans (by go_simp)
  replace q0 : w2.cell? ⟨g, 1, none⟩ = some (.int .i64 la) := (hb2.cell (p := ⟨g, 1, none⟩) (by simp <;> omega)).trans (by go_simp); replace q0f : w2.frozen? ⟨g, 1, none⟩ = false := (hb2.frozen (p := ⟨g, 1, none⟩) (by simp <;> omega)).trans (by go_simp); replace q1 : w2.cell? ⟨g, 2, none⟩ = some (.int .i64 lb) := (hb2.cell (p := ⟨g, 2, none⟩) (by simp <;> omega)).trans (by go_simp); replace q1f : w2.frozen? ⟨g, 2, none⟩ = false := (hb2.frozen (p := ⟨g, 2, none⟩) (by simp <;> omega)).trans (by go_simp)
  clear hC hb2
  go_wp2_with fail
  go_ret
  exact ⟨rfl, ⟨by first | omega | (simp <;> omega), by go_simp, by go_simp, by go_simp, by go_simp, by go_simp⟩, (by repeat' (first | (with_reducible exact gb_refl _ _) | (with_reducible assumption) | (with_reducible refine gb_set ?_ ?_ _) | (with_reducible refine gb_alloc ?_ _) | (with_reducible refine gb_drew ?_) | (with_reducible refine gb_call ?_ (by assumption)) | exact .inl rfl | exact .inr (by simp <;> omega)))⟩

set_option maxHeartbeats 1000000 in
theorem rlearn3a (g : Nat) (off la lb a b t : Int) (w : World) (h : Clk w g off la lb) (ht : isWall t = true) (hr : right a b = true) (ho : isWall off = true) (hf : a - t ≤ off) (hlt : t < a) (hc : 0 < cmpS a b la lb) :
    Calls Try.prog 28 #[.pointer (some ⟨g, 0, none⟩), .agg #[.int .i64 a, .int .i64 b], .int .i64 t] w (LearnPost g off la lb a b t w) := by
  have e1 : learnE off a b t = 0 := by unfold learnE; rw [if_neg (by simp [ht]), if_neg (by simp [hr]), if_neg (by omega)]
  have e2 : learnL off la lb a b t = (a, b) := by unfold learnL; rw [e1, if_pos ⟨rfl, hc⟩]
  unfold LearnPost
  rw [e1, e2]
  clear e1 e2
  have hbd := right_iff.1 hr
  have hbt : 0 ≤ t ∧ t ≤ 9007199254740991 := by simpa [isWall] using ht
  have hbo : 0 ≤ off ∧ off ≤ 9007199254740991 := by simpa [isWall] using ho
  have hw := IntWalk.i64_in (a - t) (by omega)
  have hf1 : decide (off < a - t) = false := by simp; omega
  have hf0 : decide (t < a) = true := by simp; omega
  have hc1 : decide (0 < cmpS a b la lb) = true := by simp; omega
  clear hf ho hc hlt
  have ht1 : (!isWall t) = false := by simp [ht]
  have hr1 : (!right a b) = false := by simp [hr]
  clear ht hr
  obtain ⟨lt, c0, c1, c2, f1, f2⟩ := h
  go_enter Try.func28, Try.ntmps28
  go_wp2_with (go_at_call 23; refine (rIsWall_any _ _).mono ?_; rintro e w' ⟨rfl, rfl⟩)
  refine (rRight_any a b _).mono ?_
  rintro e w1 ⟨rfl, hb1⟩
  have z := hb1.size; (try simp at z)
  have y0 : g < w1.heap.size := by omega
  have y1 : w.heap.size < w1.heap.size := by omega
  have G : w.grownBy w1 (some g) := (by repeat' (first | (with_reducible exact gb_refl _ _) | (with_reducible assumption) | (with_reducible refine gb_set ?_ ?_ _) | (with_reducible refine gb_alloc ?_ _) | (with_reducible refine gb_drew ?_) | (with_reducible refine gb_call ?_ (by assumption)) | exact .inl rfl | exact .inr (by simp <;> omega)))
  replace k0 : w1.cell? ⟨w.heap.size, 0, none⟩ = some (.int .i64 a) := (hb1.cell (p := ⟨w.heap.size, 0, none⟩) (by simp <;> omega)).trans (by go_simp); replace k1 : w1.cell? ⟨w.heap.size, 1, none⟩ = some (.int .i64 b) := (hb1.cell (p := ⟨w.heap.size, 1, none⟩) (by simp <;> omega)).trans (by go_simp)
  replace g0 : w1.cell? ⟨g, 0, none⟩ = some (.int .i64 off) := (hb1.cell (p := ⟨g, 0, none⟩) (by simp <;> omega)).trans (by go_simp)
  replace q0 : w1.cell? ⟨g, 1, none⟩ = some (.int .i64 la) := (hb1.cell (p := ⟨g, 1, none⟩) (by simp <;> omega)).trans (by go_simp); replace q0f : w1.frozen? ⟨g, 1, none⟩ = false := (hb1.frozen (p := ⟨g, 1, none⟩) (by simp <;> omega)).trans (by go_simp); replace q1 : w1.cell? ⟨g, 2, none⟩ = some (.int .i64 lb) := (hb1.cell (p := ⟨g, 2, none⟩) (by simp <;> omega)).trans (by go_simp); replace q1f : w1.frozen? ⟨g, 2, none⟩ = false := (hb1.frozen (p := ⟨g, 2, none⟩) (by simp <;> omega)).trans (by go_simp)
  clear hb1 c0 c1 c2 f1 f2
  go_wp2_with fail
  refine wp_region_below (by kernel_rfl) (by kernel_rfl) ?_
  refine quiet_ext ?_; apply Exists.intro; refine ⟨fun w9 hC => ?_, ?_⟩
  · replace zz0 : w9.cell? ⟨w.heap.size, 0, none⟩ = some (.int .i64 a) := (hC.cell (p := ⟨w.heap.size, 0, none⟩) (by simp <;> omega)).trans (by go_simp); replace zz1 : w9.cell? ⟨w.heap.size, 1, none⟩ = some (.int .i64 b) := (hC.cell (p := ⟨w.heap.size, 1, none⟩) (by simp <;> omega)).trans (by go_simp); replace zz2 : w9.cell? ⟨g, 0, none⟩ = some (.int .i64 off) := (hC.cell (p := ⟨g, 0, none⟩) (by simp <;> omega)).trans (by go_simp); go_simp; first | done | exact rfl | exact ⟨rfl, rfl⟩
  simp only [Act.put, List.setIfInBounds_toArray, List.set_cons_succ, List.set_cons_zero]
  refine quiet_ext ?_; apply Exists.intro; refine ⟨fun w9 hC => ?_, ?_⟩
  · replace zz0 : w9.cell? ⟨w.heap.size, 0, none⟩ = some (.int .i64 a) := (hC.cell (p := ⟨w.heap.size, 0, none⟩) (by simp <;> omega)).trans (by go_simp); replace zz1 : w9.cell? ⟨w.heap.size, 1, none⟩ = some (.int .i64 b) := (hC.cell (p := ⟨w.heap.size, 1, none⟩) (by simp <;> omega)).trans (by go_simp); replace zz2 : w9.cell? ⟨g, 0, none⟩ = some (.int .i64 off) := (hC.cell (p := ⟨g, 0, none⟩) (by simp <;> omega)).trans (by go_simp); go_simp; first | done | exact rfl | exact ⟨rfl, rfl⟩
  simp only [Act.put, List.setIfInBounds_toArray, List.set_cons_succ, List.set_cons_zero]
  refine quiet_ext ?_; apply Exists.intro; refine ⟨fun w9 hC => ?_, ?_⟩
  · replace zz0 : w9.cell? ⟨w.heap.size, 0, none⟩ = some (.int .i64 a) := (hC.cell (p := ⟨w.heap.size, 0, none⟩) (by simp <;> omega)).trans (by go_simp); replace zz1 : w9.cell? ⟨w.heap.size, 1, none⟩ = some (.int .i64 b) := (hC.cell (p := ⟨w.heap.size, 1, none⟩) (by simp <;> omega)).trans (by go_simp); replace zz2 : w9.cell? ⟨g, 0, none⟩ = some (.int .i64 off) := (hC.cell (p := ⟨g, 0, none⟩) (by simp <;> omega)).trans (by go_simp); go_simp; first | done | exact rfl | exact ⟨rfl, rfl⟩
  simp only [Act.put, List.setIfInBounds_toArray, List.set_cons_succ, List.set_cons_zero]
  refine quiet_ext ?_; apply Exists.intro; refine ⟨fun w9 hC => ?_, ?_⟩
  · replace zz0 : w9.cell? ⟨w.heap.size, 0, none⟩ = some (.int .i64 a) := (hC.cell (p := ⟨w.heap.size, 0, none⟩) (by simp <;> omega)).trans (by go_simp); replace zz1 : w9.cell? ⟨w.heap.size, 1, none⟩ = some (.int .i64 b) := (hC.cell (p := ⟨w.heap.size, 1, none⟩) (by simp <;> omega)).trans (by go_simp); replace zz2 : w9.cell? ⟨g, 0, none⟩ = some (.int .i64 off) := (hC.cell (p := ⟨g, 0, none⟩) (by simp <;> omega)).trans (by go_simp); go_simp; first | done | exact rfl | exact ⟨rfl, rfl⟩
  simp only [Act.put, List.setIfInBounds_toArray, List.set_cons_succ, List.set_cons_zero]
  refine quiet_ext ?_; apply Exists.intro; refine ⟨fun w9 hC => ?_, ?_⟩
  · replace zz0 : w9.cell? ⟨w.heap.size, 0, none⟩ = some (.int .i64 a) := (hC.cell (p := ⟨w.heap.size, 0, none⟩) (by simp <;> omega)).trans (by go_simp); replace zz1 : w9.cell? ⟨w.heap.size, 1, none⟩ = some (.int .i64 b) := (hC.cell (p := ⟨w.heap.size, 1, none⟩) (by simp <;> omega)).trans (by go_simp); replace zz2 : w9.cell? ⟨g, 0, none⟩ = some (.int .i64 off) := (hC.cell (p := ⟨g, 0, none⟩) (by simp <;> omega)).trans (by go_simp); go_simp; first | done | exact rfl | exact ⟨rfl, rfl⟩
  simp only [Act.put, List.setIfInBounds_toArray, List.set_cons_succ, List.set_cons_zero]
  refine quiet_ext ?_; apply Exists.intro; refine ⟨fun w9 hC => ?_, ?_⟩
  · replace zz0 : w9.cell? ⟨w.heap.size, 0, none⟩ = some (.int .i64 a) := (hC.cell (p := ⟨w.heap.size, 0, none⟩) (by simp <;> omega)).trans (by go_simp); replace zz1 : w9.cell? ⟨w.heap.size, 1, none⟩ = some (.int .i64 b) := (hC.cell (p := ⟨w.heap.size, 1, none⟩) (by simp <;> omega)).trans (by go_simp); replace zz2 : w9.cell? ⟨g, 0, none⟩ = some (.int .i64 off) := (hC.cell (p := ⟨g, 0, none⟩) (by simp <;> omega)).trans (by go_simp); go_simp; first | done | exact rfl | exact ⟨rfl, rfl⟩
  simp only [Act.put, List.setIfInBounds_toArray, List.set_cons_succ, List.set_cons_zero]
  refine quiet_ext ?_; apply Exists.intro; refine ⟨fun w9 hC => ?_, ?_⟩
  · replace zz0 : w9.cell? ⟨w.heap.size, 0, none⟩ = some (.int .i64 a) := (hC.cell (p := ⟨w.heap.size, 0, none⟩) (by simp <;> omega)).trans (by go_simp); replace zz1 : w9.cell? ⟨w.heap.size, 1, none⟩ = some (.int .i64 b) := (hC.cell (p := ⟨w.heap.size, 1, none⟩) (by simp <;> omega)).trans (by go_simp); replace zz2 : w9.cell? ⟨g, 0, none⟩ = some (.int .i64 off) := (hC.cell (p := ⟨g, 0, none⟩) (by simp <;> omega)).trans (by go_simp); go_simp; first | done | exact rfl | exact ⟨rfl, rfl⟩
  simp only [Act.put, List.setIfInBounds_toArray, List.set_cons_succ, List.set_cons_zero]
  refine quiet_ext ?_; apply Exists.intro; refine ⟨fun w9 hC => ?_, ?_⟩
  · replace zz0 : w9.cell? ⟨w.heap.size, 0, none⟩ = some (.int .i64 a) := (hC.cell (p := ⟨w.heap.size, 0, none⟩) (by simp <;> omega)).trans (by go_simp); replace zz1 : w9.cell? ⟨w.heap.size, 1, none⟩ = some (.int .i64 b) := (hC.cell (p := ⟨w.heap.size, 1, none⟩) (by simp <;> omega)).trans (by go_simp); replace zz2 : w9.cell? ⟨g, 0, none⟩ = some (.int .i64 off) := (hC.cell (p := ⟨g, 0, none⟩) (by simp <;> omega)).trans (by go_simp); go_simp; first | done | exact rfl | exact ⟨rfl, rfl⟩
  simp only [Act.put, List.setIfInBounds_toArray, List.set_cons_succ, List.set_cons_zero]
  refine quiet_ext ?_; apply Exists.intro; refine ⟨fun w9 hC => ?_, ?_⟩
  · replace zz0 : w9.cell? ⟨w.heap.size, 0, none⟩ = some (.int .i64 a) := (hC.cell (p := ⟨w.heap.size, 0, none⟩) (by simp <;> omega)).trans (by go_simp); replace zz1 : w9.cell? ⟨w.heap.size, 1, none⟩ = some (.int .i64 b) := (hC.cell (p := ⟨w.heap.size, 1, none⟩) (by simp <;> omega)).trans (by go_simp); replace zz2 : w9.cell? ⟨g, 0, none⟩ = some (.int .i64 off) := (hC.cell (p := ⟨g, 0, none⟩) (by simp <;> omega)).trans (by go_simp); go_simp; first | done | exact rfl | exact ⟨rfl, rfl⟩
  simp only [Act.put, List.setIfInBounds_toArray, List.set_cons_succ, List.set_cons_zero]
  refine quiet_ext ?_; apply Exists.intro; refine ⟨fun w9 hC => ?_, ?_⟩
  · replace zz0 : w9.cell? ⟨w.heap.size, 0, none⟩ = some (.int .i64 a) := (hC.cell (p := ⟨w.heap.size, 0, none⟩) (by simp <;> omega)).trans (by go_simp); replace zz1 : w9.cell? ⟨w.heap.size, 1, none⟩ = some (.int .i64 b) := (hC.cell (p := ⟨w.heap.size, 1, none⟩) (by simp <;> omega)).trans (by go_simp); replace zz2 : w9.cell? ⟨g, 0, none⟩ = some (.int .i64 off) := (hC.cell (p := ⟨g, 0, none⟩) (by simp <;> omega)).trans (by go_simp); go_simp; first | done | exact rfl | exact ⟨rfl, rfl⟩
  simp only [Act.put, List.setIfInBounds_toArray, List.set_cons_succ, List.set_cons_zero]
  refine quiet_ext ?_; apply Exists.intro; refine ⟨fun w9 hC => ?_, ?_⟩
  · replace zz0 : w9.cell? ⟨w.heap.size, 0, none⟩ = some (.int .i64 a) := (hC.cell (p := ⟨w.heap.size, 0, none⟩) (by simp <;> omega)).trans (by go_simp); replace zz1 : w9.cell? ⟨w.heap.size, 1, none⟩ = some (.int .i64 b) := (hC.cell (p := ⟨w.heap.size, 1, none⟩) (by simp <;> omega)).trans (by go_simp); replace zz2 : w9.cell? ⟨g, 0, none⟩ = some (.int .i64 off) := (hC.cell (p := ⟨g, 0, none⟩) (by simp <;> omega)).trans (by go_simp); go_simp; first | done | exact rfl | exact ⟨rfl, rfl⟩
  simp only [Act.put, List.setIfInBounds_toArray, List.set_cons_succ, List.set_cons_zero]
  refine quiet_ext ?_; apply Exists.intro; refine ⟨fun w9 hC => ?_, ?_⟩
  · replace zz0 : w9.cell? ⟨w.heap.size, 0, none⟩ = some (.int .i64 a) := (hC.cell (p := ⟨w.heap.size, 0, none⟩) (by simp <;> omega)).trans (by go_simp); replace zz1 : w9.cell? ⟨w.heap.size, 1, none⟩ = some (.int .i64 b) := (hC.cell (p := ⟨w.heap.size, 1, none⟩) (by simp <;> omega)).trans (by go_simp); replace zz2 : w9.cell? ⟨g, 0, none⟩ = some (.int .i64 off) := (hC.cell (p := ⟨g, 0, none⟩) (by simp <;> omega)).trans (by go_simp); go_simp; first | done | exact rfl | exact ⟨rfl, rfl⟩
  simp only [Act.put, List.setIfInBounds_toArray, List.set_cons_succ, List.set_cons_zero]
  refine quiet_ext ?_; apply Exists.intro; refine ⟨fun w9 hC => ?_, ?_⟩
  · replace zz0 : w9.cell? ⟨w.heap.size, 0, none⟩ = some (.int .i64 a) := (hC.cell (p := ⟨w.heap.size, 0, none⟩) (by simp <;> omega)).trans (by go_simp); replace zz1 : w9.cell? ⟨w.heap.size, 1, none⟩ = some (.int .i64 b) := (hC.cell (p := ⟨w.heap.size, 1, none⟩) (by simp <;> omega)).trans (by go_simp); replace zz2 : w9.cell? ⟨g, 0, none⟩ = some (.int .i64 off) := (hC.cell (p := ⟨g, 0, none⟩) (by simp <;> omega)).trans (by go_simp); go_simp; first | done | exact rfl | exact ⟨rfl, rfl⟩
  simp only [Act.put, List.setIfInBounds_toArray, List.set_cons_succ, List.set_cons_zero]
  refine quiet_ext ?_; apply Exists.intro; refine ⟨fun w9 hC => ?_, ?_⟩
  · replace zz0 : w9.cell? ⟨w.heap.size, 0, none⟩ = some (.int .i64 a) := (hC.cell (p := ⟨w.heap.size, 0, none⟩) (by simp <;> omega)).trans (by go_simp); replace zz1 : w9.cell? ⟨w.heap.size, 1, none⟩ = some (.int .i64 b) := (hC.cell (p := ⟨w.heap.size, 1, none⟩) (by simp <;> omega)).trans (by go_simp); replace zz2 : w9.cell? ⟨g, 0, none⟩ = some (.int .i64 off) := (hC.cell (p := ⟨g, 0, none⟩) (by simp <;> omega)).trans (by go_simp); go_simp; first | done | exact rfl | exact ⟨rfl, rfl⟩
  simp only [Act.put, List.setIfInBounds_toArray, List.set_cons_succ, List.set_cons_zero]
  refine quiet_ext ?_; apply Exists.intro; refine ⟨fun w9 hC => ?_, ?_⟩
  · replace zz0 : w9.cell? ⟨w.heap.size, 0, none⟩ = some (.int .i64 a) := (hC.cell (p := ⟨w.heap.size, 0, none⟩) (by simp <;> omega)).trans (by go_simp); replace zz1 : w9.cell? ⟨w.heap.size, 1, none⟩ = some (.int .i64 b) := (hC.cell (p := ⟨w.heap.size, 1, none⟩) (by simp <;> omega)).trans (by go_simp); replace zz2 : w9.cell? ⟨g, 0, none⟩ = some (.int .i64 off) := (hC.cell (p := ⟨g, 0, none⟩) (by simp <;> omega)).trans (by go_simp); go_simp; first | done | exact rfl | exact ⟨rfl, rfl⟩
  simp only [Act.put, List.setIfInBounds_toArray, List.set_cons_succ, List.set_cons_zero]
  refine wpQuiet_nil ?_
  intro w2 hC
  have hb2 := hC.below
  have z2 := hb2.size; (try simp at z2)
  replace y0 : g < w2.heap.size := by omega
  replace y1 : w.heap.size < w2.heap.size := by omega
  replace G : w.grownBy w2 (some g) := gb_call G hb2
  replace k0 : w2.cell? ⟨w.heap.size, 0, none⟩ = some (.int .i64 a) := (hb2.cell (p := ⟨w.heap.size, 0, none⟩) (by simp <;> omega)).trans (by go_simp); replace k1 : w2.cell? ⟨w.heap.size, 1, none⟩ = some (.int .i64 b) := (hb2.cell (p := ⟨w.heap.size, 1, none⟩) (by simp <;> omega)).trans (by go_simp)
  replace g0 : w2.cell? ⟨g, 0, none⟩ = some (.int .i64 off) := (hb2.cell (p := ⟨g, 0, none⟩) (by simp <;> omega)).trans (by go_simp)
  replace q0 : w2.cell? ⟨g, 1, none⟩ = some (.int .i64 la) := (hb2.cell (p := ⟨g, 1, none⟩) (by simp <;> omega)).trans (by go_simp); replace q0f : w2.frozen? ⟨g, 1, none⟩ = false := (hb2.frozen (p := ⟨g, 1, none⟩) (by simp <;> omega)).trans (by go_simp); replace q1 : w2.cell? ⟨g, 2, none⟩ = some (.int .i64 lb) := (hb2.cell (p := ⟨g, 2, none⟩) (by simp <;> omega)).trans (by go_simp); replace q1f : w2.frozen? ⟨g, 2, none⟩ = false := (hb2.frozen (p := ⟨g, 2, none⟩) (by simp <;> omega)).trans (by go_simp)
  clear hC hb2
  go_wp2_with fail
  refine wp_region_below (by kernel_rfl) (by kernel_rfl) ?_
  refine quiet_ext ?_; apply Exists.intro; refine ⟨fun w9 hC => ?_, ?_⟩
  · replace zz0 : w9.cell? ⟨w.heap.size, 0, none⟩ = some (.int .i64 a) := (hC.cell (p := ⟨w.heap.size, 0, none⟩) (by simp <;> omega)).trans (by go_simp); replace zz1 : w9.cell? ⟨w.heap.size, 1, none⟩ = some (.int .i64 b) := (hC.cell (p := ⟨w.heap.size, 1, none⟩) (by simp <;> omega)).trans (by go_simp); replace zz2 : w9.cell? ⟨g, 0, none⟩ = some (.int .i64 off) := (hC.cell (p := ⟨g, 0, none⟩) (by simp <;> omega)).trans (by go_simp); replace zz3 : w9.cell? ⟨g, 1, none⟩ = some (.int .i64 la) := (hC.cell (p := ⟨g, 1, none⟩) (by simp <;> omega)).trans (by go_simp); replace zz4 : w9.cell? ⟨g, 2, none⟩ = some (.int .i64 lb) := (hC.cell (p := ⟨g, 2, none⟩) (by simp <;> omega)).trans (by go_simp); go_simp; first | done | exact rfl | exact ⟨rfl, rfl⟩
  simp only [Act.put, List.setIfInBounds_toArray, List.set_cons_succ, List.set_cons_zero]
  refine quiet_ext ?_; apply Exists.intro; refine ⟨fun w9 hC => ?_, ?_⟩
  · replace zz0 : w9.cell? ⟨w.heap.size, 0, none⟩ = some (.int .i64 a) := (hC.cell (p := ⟨w.heap.size, 0, none⟩) (by simp <;> omega)).trans (by go_simp); replace zz1 : w9.cell? ⟨w.heap.size, 1, none⟩ = some (.int .i64 b) := (hC.cell (p := ⟨w.heap.size, 1, none⟩) (by simp <;> omega)).trans (by go_simp); replace zz2 : w9.cell? ⟨g, 0, none⟩ = some (.int .i64 off) := (hC.cell (p := ⟨g, 0, none⟩) (by simp <;> omega)).trans (by go_simp); replace zz3 : w9.cell? ⟨g, 1, none⟩ = some (.int .i64 la) := (hC.cell (p := ⟨g, 1, none⟩) (by simp <;> omega)).trans (by go_simp); replace zz4 : w9.cell? ⟨g, 2, none⟩ = some (.int .i64 lb) := (hC.cell (p := ⟨g, 2, none⟩) (by simp <;> omega)).trans (by go_simp); go_simp; first | done | exact rfl | exact ⟨rfl, rfl⟩
  simp only [Act.put, List.setIfInBounds_toArray, List.set_cons_succ, List.set_cons_zero]
  refine quiet_ext ?_; apply Exists.intro; refine ⟨fun w9 hC => ?_, ?_⟩
  · replace zz0 : w9.cell? ⟨w.heap.size, 0, none⟩ = some (.int .i64 a) := (hC.cell (p := ⟨w.heap.size, 0, none⟩) (by simp <;> omega)).trans (by go_simp); replace zz1 : w9.cell? ⟨w.heap.size, 1, none⟩ = some (.int .i64 b) := (hC.cell (p := ⟨w.heap.size, 1, none⟩) (by simp <;> omega)).trans (by go_simp); replace zz2 : w9.cell? ⟨g, 0, none⟩ = some (.int .i64 off) := (hC.cell (p := ⟨g, 0, none⟩) (by simp <;> omega)).trans (by go_simp); replace zz3 : w9.cell? ⟨g, 1, none⟩ = some (.int .i64 la) := (hC.cell (p := ⟨g, 1, none⟩) (by simp <;> omega)).trans (by go_simp); replace zz4 : w9.cell? ⟨g, 2, none⟩ = some (.int .i64 lb) := (hC.cell (p := ⟨g, 2, none⟩) (by simp <;> omega)).trans (by go_simp); go_simp; first | done | exact rfl | exact ⟨rfl, rfl⟩
  simp only [Act.put, List.setIfInBounds_toArray, List.set_cons_succ, List.set_cons_zero]
  refine quiet_ext ?_; apply Exists.intro; refine ⟨fun w9 hC => ?_, ?_⟩
  · replace zz0 : w9.cell? ⟨w.heap.size, 0, none⟩ = some (.int .i64 a) := (hC.cell (p := ⟨w.heap.size, 0, none⟩) (by simp <;> omega)).trans (by go_simp); replace zz1 : w9.cell? ⟨w.heap.size, 1, none⟩ = some (.int .i64 b) := (hC.cell (p := ⟨w.heap.size, 1, none⟩) (by simp <;> omega)).trans (by go_simp); replace zz2 : w9.cell? ⟨g, 0, none⟩ = some (.int .i64 off) := (hC.cell (p := ⟨g, 0, none⟩) (by simp <;> omega)).trans (by go_simp); replace zz3 : w9.cell? ⟨g, 1, none⟩ = some (.int .i64 la) := (hC.cell (p := ⟨g, 1, none⟩) (by simp <;> omega)).trans (by go_simp); replace zz4 : w9.cell? ⟨g, 2, none⟩ = some (.int .i64 lb) := (hC.cell (p := ⟨g, 2, none⟩) (by simp <;> omega)).trans (by go_simp); go_simp; first | done | exact rfl | exact ⟨rfl, rfl⟩
  simp only [Act.put, List.setIfInBounds_toArray, List.set_cons_succ, List.set_cons_zero]
  refine quiet_ext ?_; apply Exists.intro; refine ⟨fun w9 hC => ?_, ?_⟩
  · replace zz0 : w9.cell? ⟨w.heap.size, 0, none⟩ = some (.int .i64 a) := (hC.cell (p := ⟨w.heap.size, 0, none⟩) (by simp <;> omega)).trans (by go_simp); replace zz1 : w9.cell? ⟨w.heap.size, 1, none⟩ = some (.int .i64 b) := (hC.cell (p := ⟨w.heap.size, 1, none⟩) (by simp <;> omega)).trans (by go_simp); replace zz2 : w9.cell? ⟨g, 0, none⟩ = some (.int .i64 off) := (hC.cell (p := ⟨g, 0, none⟩) (by simp <;> omega)).trans (by go_simp); replace zz3 : w9.cell? ⟨g, 1, none⟩ = some (.int .i64 la) := (hC.cell (p := ⟨g, 1, none⟩) (by simp <;> omega)).trans (by go_simp); replace zz4 : w9.cell? ⟨g, 2, none⟩ = some (.int .i64 lb) := (hC.cell (p := ⟨g, 2, none⟩) (by simp <;> omega)).trans (by go_simp); go_simp; first | done | exact rfl | exact ⟨rfl, rfl⟩
  simp only [Act.put, List.setIfInBounds_toArray, List.set_cons_succ, List.set_cons_zero]
  refine quiet_ext ?_; apply Exists.intro; refine ⟨fun w9 hC => ?_, ?_⟩
  · replace zz0 : w9.cell? ⟨w.heap.size, 0, none⟩ = some (.int .i64 a) := (hC.cell (p := ⟨w.heap.size, 0, none⟩) (by simp <;> omega)).trans (by go_simp); replace zz1 : w9.cell? ⟨w.heap.size, 1, none⟩ = some (.int .i64 b) := (hC.cell (p := ⟨w.heap.size, 1, none⟩) (by simp <;> omega)).trans (by go_simp); replace zz2 : w9.cell? ⟨g, 0, none⟩ = some (.int .i64 off) := (hC.cell (p := ⟨g, 0, none⟩) (by simp <;> omega)).trans (by go_simp); replace zz3 : w9.cell? ⟨g, 1, none⟩ = some (.int .i64 la) := (hC.cell (p := ⟨g, 1, none⟩) (by simp <;> omega)).trans (by go_simp); replace zz4 : w9.cell? ⟨g, 2, none⟩ = some (.int .i64 lb) := (hC.cell (p := ⟨g, 2, none⟩) (by simp <;> omega)).trans (by go_simp); go_simp; exact (rCompare_any a b la lb _).mono fun _ _ h => ⟨h.1, ext_call hC h.2⟩
  simp only [Act.put, List.setIfInBounds_toArray, List.set_cons_succ, List.set_cons_zero]
  refine quiet_ext ?_; apply Exists.intro; refine ⟨fun w9 hC => ?_, ?_⟩
  · replace zz0 : w9.cell? ⟨w.heap.size, 0, none⟩ = some (.int .i64 a) := (hC.cell (p := ⟨w.heap.size, 0, none⟩) (by simp <;> omega)).trans (by go_simp); replace zz1 : w9.cell? ⟨w.heap.size, 1, none⟩ = some (.int .i64 b) := (hC.cell (p := ⟨w.heap.size, 1, none⟩) (by simp <;> omega)).trans (by go_simp); replace zz2 : w9.cell? ⟨g, 0, none⟩ = some (.int .i64 off) := (hC.cell (p := ⟨g, 0, none⟩) (by simp <;> omega)).trans (by go_simp); replace zz3 : w9.cell? ⟨g, 1, none⟩ = some (.int .i64 la) := (hC.cell (p := ⟨g, 1, none⟩) (by simp <;> omega)).trans (by go_simp); replace zz4 : w9.cell? ⟨g, 2, none⟩ = some (.int .i64 lb) := (hC.cell (p := ⟨g, 2, none⟩) (by simp <;> omega)).trans (by go_simp); go_simp; first | done | exact rfl | exact ⟨rfl, rfl⟩
  simp only [Act.put, List.setIfInBounds_toArray, List.set_cons_succ, List.set_cons_zero]
  refine wpQuiet_nil ?_
  intro w3 hC
  have hb3 := hC.below
  have z3 := hb3.size; (try simp at z3)
  replace y0 : g < w3.heap.size := by omega
  replace y1 : w.heap.size < w3.heap.size := by omega
  replace G : w.grownBy w3 (some g) := gb_call G hb3
  replace k0 : w3.cell? ⟨w.heap.size, 0, none⟩ = some (.int .i64 a) := (hb3.cell (p := ⟨w.heap.size, 0, none⟩) (by simp <;> omega)).trans (by go_simp); replace k1 : w3.cell? ⟨w.heap.size, 1, none⟩ = some (.int .i64 b) := (hb3.cell (p := ⟨w.heap.size, 1, none⟩) (by simp <;> omega)).trans (by go_simp)
  replace g0 : w3.cell? ⟨g, 0, none⟩ = some (.int .i64 off) := (hb3.cell (p := ⟨g, 0, none⟩) (by simp <;> omega)).trans (by go_simp)
  replace q0 : w3.cell? ⟨g, 1, none⟩ = some (.int .i64 la) := (hb3.cell (p := ⟨g, 1, none⟩) (by simp <;> omega)).trans (by go_simp); replace q0f : w3.frozen? ⟨g, 1, none⟩ = false := (hb3.frozen (p := ⟨g, 1, none⟩) (by simp <;> omega)).trans (by go_simp); replace q1 : w3.cell? ⟨g, 2, none⟩ = some (.int .i64 lb) := (hb3.cell (p := ⟨g, 2, none⟩) (by simp <;> omega)).trans (by go_simp); replace q1f : w3.frozen? ⟨g, 2, none⟩ = false := (hb3.frozen (p := ⟨g, 2, none⟩) (by simp <;> omega)).trans (by go_simp)
  clear hC hb3
  go_wp2_with fail
  go_ret
  exact ⟨rfl, ⟨by first | omega | (simp <;> omega), by go_simp, by go_simp, by go_simp, by go_simp, by go_simp⟩, (by repeat' (first | (with_reducible exact gb_refl _ _) | (with_reducible assumption) | (with_reducible refine gb_set ?_ ?_ _) | (with_reducible refine gb_alloc ?_ _) | (with_reducible refine gb_drew ?_) | (with_reducible refine gb_call ?_ (by assumption)) | exact .inl rfl | exact .inr (by simp <;> omega)))⟩

set_option maxHeartbeats 1000000 in
theorem rlearn4a (g : Nat) (off la lb a b t : Int) (w : World) (h : Clk w g off la lb) (ht : isWall t = true) (hr : right a b = true) (ho : isWall off = true) (hf : a - t ≤ off) (hlt : t < a) (hc : cmpS a b la lb ≤ 0) :
    Calls Try.prog 28 #[.pointer (some ⟨g, 0, none⟩), .agg #[.int .i64 a, .int .i64 b], .int .i64 t] w (LearnPost g off la lb a b t w) := by
  have e1 : learnE off a b t = 0 := by unfold learnE; rw [if_neg (by simp [ht]), if_neg (by simp [hr]), if_neg (by omega)]
  have e2 : learnL off la lb a b t = (la, lb) := by unfold learnL; rw [e1, if_neg (by omega)]
  unfold LearnPost
  rw [e1, e2]
  clear e1 e2
  have hbd := right_iff.1 hr
  have hbt : 0 ≤ t ∧ t ≤ 9007199254740991 := by simpa [isWall] using ht
  have hbo : 0 ≤ off ∧ off ≤ 9007199254740991 := by simpa [isWall] using ho
  have hw := IntWalk.i64_in (a - t) (by omega)
  have hf1 : decide (off < a - t) = false := by simp; omega
  have hf0 : decide (t < a) = true := by simp; omega
  have hc1 : decide (0 < cmpS a b la lb) = false := by simp; omega
  clear hf ho hc hlt
  have ht1 : (!isWall t) = false := by simp [ht]
  have hr1 : (!right a b) = false := by simp [hr]
  clear ht hr
  obtain ⟨lt, c0, c1, c2, f1, f2⟩ := h
  go_enter Try.func28, Try.ntmps28
  go_wp2_with (go_at_call 23; refine (rIsWall_any _ _).mono ?_; rintro e w' ⟨rfl, rfl⟩)
  refine (rRight_any a b _).mono ?_
  rintro e w1 ⟨rfl, hb1⟩
  have z := hb1.size; (try simp at z)
  have y0 : g < w1.heap.size := by omega
  have y1 : w.heap.size < w1.heap.size := by omega
  have G : w.grownBy w1 (some g) := (by repeat' (first | (with_reducible exact gb_refl _ _) | (with_reducible assumption) | (with_reducible refine gb_set ?_ ?_ _) | (with_reducible refine gb_alloc ?_ _) | (with_reducible refine gb_drew ?_) | (with_reducible refine gb_call ?_ (by assumption)) | exact .inl rfl | exact .inr (by simp <;> omega)))
  replace k0 : w1.cell? ⟨w.heap.size, 0, none⟩ = some (.int .i64 a) := (hb1.cell (p := ⟨w.heap.size, 0, none⟩) (by simp <;> omega)).trans (by go_simp); replace k1 : w1.cell? ⟨w.heap.size, 1, none⟩ = some (.int .i64 b) := (hb1.cell (p := ⟨w.heap.size, 1, none⟩) (by simp <;> omega)).trans (by go_simp)
  replace g0 : w1.cell? ⟨g, 0, none⟩ = some (.int .i64 off) := (hb1.cell (p := ⟨g, 0, none⟩) (by simp <;> omega)).trans (by go_simp)
  replace q0 : w1.cell? ⟨g, 1, none⟩ = some (.int .i64 la) := (hb1.cell (p := ⟨g, 1, none⟩) (by simp <;> omega)).trans (by go_simp); replace q0f : w1.frozen? ⟨g, 1, none⟩ = false := (hb1.frozen (p := ⟨g, 1, none⟩) (by simp <;> omega)).trans (by go_simp); replace q1 : w1.cell? ⟨g, 2, none⟩ = some (.int .i64 lb) := (hb1.cell (p := ⟨g, 2, none⟩) (by simp <;> omega)).trans (by go_simp); replace q1f : w1.frozen? ⟨g, 2, none⟩ = false := (hb1.frozen (p := ⟨g, 2, none⟩) (by simp <;> omega)).trans (by go_simp)
  clear hb1 c0 c1 c2 f1 f2
  go_wp2_with fail
  refine wp_region_below (by kernel_rfl) (by kernel_rfl) ?_
  refine quiet_ext ?_; apply Exists.intro; refine ⟨fun w9 hC => ?_, ?_⟩
  · replace zz0 : w9.cell? ⟨w.heap.size, 0, none⟩ = some (.int .i64 a) := (hC.cell (p := ⟨w.heap.size, 0, none⟩) (by simp <;> omega)).trans (by go_simp); replace zz1 : w9.cell? ⟨w.heap.size, 1, none⟩ = some (.int .i64 b) := (hC.cell (p := ⟨w.heap.size, 1, none⟩) (by simp <;> omega)).trans (by go_simp); replace zz2 : w9.cell? ⟨g, 0, none⟩ = some (.int .i64 off) := (hC.cell (p := ⟨g, 0, none⟩) (by simp <;> omega)).trans (by go_simp); go_simp; first | done | exact rfl | exact ⟨rfl, rfl⟩
  simp only [Act.put, List.setIfInBounds_toArray, List.set_cons_succ, List.set_cons_zero]
  refine quiet_ext ?_; apply Exists.intro; refine ⟨fun w9 hC => ?_, ?_⟩
  · replace zz0 : w9.cell? ⟨w.heap.size, 0, none⟩ = some (.int .i64 a) := (hC.cell (p := ⟨w.heap.size, 0, none⟩) (by simp <;> omega)).trans (by go_simp); replace zz1 : w9.cell? ⟨w.heap.size, 1, none⟩ = some (.int .i64 b) := (hC.cell (p := ⟨w.heap.size, 1, none⟩) (by simp <;> omega)).trans (by go_simp); replace zz2 : w9.cell? ⟨g, 0, none⟩ = some (.int .i64 off) := (hC.cell (p := ⟨g, 0, none⟩) (by simp <;> omega)).trans (by go_simp); go_simp; first | done | exact rfl | exact ⟨rfl, rfl⟩
  simp only [Act.put, List.setIfInBounds_toArray, List.set_cons_succ, List.set_cons_zero]
  refine quiet_ext ?_; apply Exists.intro; refine ⟨fun w9 hC => ?_, ?_⟩
  · replace zz0 : w9.cell? ⟨w.heap.size, 0, none⟩ = some (.int .i64 a) := (hC.cell (p := ⟨w.heap.size, 0, none⟩) (by simp <;> omega)).trans (by go_simp); replace zz1 : w9.cell? ⟨w.heap.size, 1, none⟩ = some (.int .i64 b) := (hC.cell (p := ⟨w.heap.size, 1, none⟩) (by simp <;> omega)).trans (by go_simp); replace zz2 : w9.cell? ⟨g, 0, none⟩ = some (.int .i64 off) := (hC.cell (p := ⟨g, 0, none⟩) (by simp <;> omega)).trans (by go_simp); go_simp; first | done | exact rfl | exact ⟨rfl, rfl⟩
  simp only [Act.put, List.setIfInBounds_toArray, List.set_cons_succ, List.set_cons_zero]
  refine quiet_ext ?_; apply Exists.intro; refine ⟨fun w9 hC => ?_, ?_⟩
  · replace zz0 : w9.cell? ⟨w.heap.size, 0, none⟩ = some (.int .i64 a) := (hC.cell (p := ⟨w.heap.size, 0, none⟩) (by simp <;> omega)).trans (by go_simp); replace zz1 : w9.cell? ⟨w.heap.size, 1, none⟩ = some (.int .i64 b) := (hC.cell (p := ⟨w.heap.size, 1, none⟩) (by simp <;> omega)).trans (by go_simp); replace zz2 : w9.cell? ⟨g, 0, none⟩ = some (.int .i64 off) := (hC.cell (p := ⟨g, 0, none⟩) (by simp <;> omega)).trans (by go_simp); go_simp; first | done | exact rfl | exact ⟨rfl, rfl⟩
  simp only [Act.put, List.setIfInBounds_toArray, List.set_cons_succ, List.set_cons_zero]
  refine quiet_ext ?_; apply Exists.intro; refine ⟨fun w9 hC => ?_, ?_⟩
  · replace zz0 : w9.cell? ⟨w.heap.size, 0, none⟩ = some (.int .i64 a) := (hC.cell (p := ⟨w.heap.size, 0, none⟩) (by simp <;> omega)).trans (by go_simp); replace zz1 : w9.cell? ⟨w.heap.size, 1, none⟩ = some (.int .i64 b) := (hC.cell (p := ⟨w.heap.size, 1, none⟩) (by simp <;> omega)).trans (by go_simp); replace zz2 : w9.cell? ⟨g, 0, none⟩ = some (.int .i64 off) := (hC.cell (p := ⟨g, 0, none⟩) (by simp <;> omega)).trans (by go_simp); go_simp; first | done | exact rfl | exact ⟨rfl, rfl⟩
  simp only [Act.put, List.setIfInBounds_toArray, List.set_cons_succ, List.set_cons_zero]
  refine quiet_ext ?_; apply Exists.intro; refine ⟨fun w9 hC => ?_, ?_⟩
  · replace zz0 : w9.cell? ⟨w.heap.size, 0, none⟩ = some (.int .i64 a) := (hC.cell (p := ⟨w.heap.size, 0, none⟩) (by simp <;> omega)).trans (by go_simp); replace zz1 : w9.cell? ⟨w.heap.size, 1, none⟩ = some (.int .i64 b) := (hC.cell (p := ⟨w.heap.size, 1, none⟩) (by simp <;> omega)).trans (by go_simp); replace zz2 : w9.cell? ⟨g, 0, none⟩ = some (.int .i64 off) := (hC.cell (p := ⟨g, 0, none⟩) (by simp <;> omega)).trans (by go_simp); go_simp; first | done | exact rfl | exact ⟨rfl, rfl⟩
  simp only [Act.put, List.setIfInBounds_toArray, List.set_cons_succ, List.set_cons_zero]
  refine quiet_ext ?_; apply Exists.intro; refine ⟨fun w9 hC => ?_, ?_⟩
  · replace zz0 : w9.cell? ⟨w.heap.size, 0, none⟩ = some (.int .i64 a) := (hC.cell (p := ⟨w.heap.size, 0, none⟩) (by simp <;> omega)).trans (by go_simp); replace zz1 : w9.cell? ⟨w.heap.size, 1, none⟩ = some (.int .i64 b) := (hC.cell (p := ⟨w.heap.size, 1, none⟩) (by simp <;> omega)).trans (by go_simp); replace zz2 : w9.cell? ⟨g, 0, none⟩ = some (.int .i64 off) := (hC.cell (p := ⟨g, 0, none⟩) (by simp <;> omega)).trans (by go_simp); go_simp; first | done | exact rfl | exact ⟨rfl, rfl⟩
  simp only [Act.put, List.setIfInBounds_toArray, List.set_cons_succ, List.set_cons_zero]
  refine quiet_ext ?_; apply Exists.intro; refine ⟨fun w9 hC => ?_, ?_⟩
  · replace zz0 : w9.cell? ⟨w.heap.size, 0, none⟩ = some (.int .i64 a) := (hC.cell (p := ⟨w.heap.size, 0, none⟩) (by simp <;> omega)).trans (by go_simp); replace zz1 : w9.cell? ⟨w.heap.size, 1, none⟩ = some (.int .i64 b) := (hC.cell (p := ⟨w.heap.size, 1, none⟩) (by simp <;> omega)).trans (by go_simp); replace zz2 : w9.cell? ⟨g, 0, none⟩ = some (.int .i64 off) := (hC.cell (p := ⟨g, 0, none⟩) (by simp <;> omega)).trans (by go_simp); go_simp; first | done | exact rfl | exact ⟨rfl, rfl⟩
  simp only [Act.put, List.setIfInBounds_toArray, List.set_cons_succ, List.set_cons_zero]
  refine quiet_ext ?_; apply Exists.intro; refine ⟨fun w9 hC => ?_, ?_⟩
  · replace zz0 : w9.cell? ⟨w.heap.size, 0, none⟩ = some (.int .i64 a) := (hC.cell (p := ⟨w.heap.size, 0, none⟩) (by simp <;> omega)).trans (by go_simp); replace zz1 : w9.cell? ⟨w.heap.size, 1, none⟩ = some (.int .i64 b) := (hC.cell (p := ⟨w.heap.size, 1, none⟩) (by simp <;> omega)).trans (by go_simp); replace zz2 : w9.cell? ⟨g, 0, none⟩ = some (.int .i64 off) := (hC.cell (p := ⟨g, 0, none⟩) (by simp <;> omega)).trans (by go_simp); go_simp; first | done | exact rfl | exact ⟨rfl, rfl⟩
  simp only [Act.put, List.setIfInBounds_toArray, List.set_cons_succ, List.set_cons_zero]
  refine quiet_ext ?_; apply Exists.intro; refine ⟨fun w9 hC => ?_, ?_⟩
  · replace zz0 : w9.cell? ⟨w.heap.size, 0, none⟩ = some (.int .i64 a) := (hC.cell (p := ⟨w.heap.size, 0, none⟩) (by simp <;> omega)).trans (by go_simp); replace zz1 : w9.cell? ⟨w.heap.size, 1, none⟩ = some (.int .i64 b) := (hC.cell (p := ⟨w.heap.size, 1, none⟩) (by simp <;> omega)).trans (by go_simp); replace zz2 : w9.cell? ⟨g, 0, none⟩ = some (.int .i64 off) := (hC.cell (p := ⟨g, 0, none⟩) (by simp <;> omega)).trans (by go_simp); go_simp; first | done | exact rfl | exact ⟨rfl, rfl⟩
  simp only [Act.put, List.setIfInBounds_toArray, List.set_cons_succ, List.set_cons_zero]
  refine quiet_ext ?_; apply Exists.intro; refine ⟨fun w9 hC => ?_, ?_⟩
  · replace zz0 : w9.cell? ⟨w.heap.size, 0, none⟩ = some (.int .i64 a) := (hC.cell (p := ⟨w.heap.size, 0, none⟩) (by simp <;> omega)).trans (by go_simp); replace zz1 : w9.cell? ⟨w.heap.size, 1, none⟩ = some (.int .i64 b) := (hC.cell (p := ⟨w.heap.size, 1, none⟩) (by simp <;> omega)).trans (by go_simp); replace zz2 : w9.cell? ⟨g, 0, none⟩ = some (.int .i64 off) := (hC.cell (p := ⟨g, 0, none⟩) (by simp <;> omega)).trans (by go_simp); go_simp; first | done | exact rfl | exact ⟨rfl, rfl⟩
  simp only [Act.put, List.setIfInBounds_toArray, List.set_cons_succ, List.set_cons_zero]
  refine quiet_ext ?_; apply Exists.intro; refine ⟨fun w9 hC => ?_, ?_⟩
  · replace zz0 : w9.cell? ⟨w.heap.size, 0, none⟩ = some (.int .i64 a) := (hC.cell (p := ⟨w.heap.size, 0, none⟩) (by simp <;> omega)).trans (by go_simp); replace zz1 : w9.cell? ⟨w.heap.size, 1, none⟩ = some (.int .i64 b) := (hC.cell (p := ⟨w.heap.size, 1, none⟩) (by simp <;> omega)).trans (by go_simp); replace zz2 : w9.cell? ⟨g, 0, none⟩ = some (.int .i64 off) := (hC.cell (p := ⟨g, 0, none⟩) (by simp <;> omega)).trans (by go_simp); go_simp; first | done | exact rfl | exact ⟨rfl, rfl⟩
  simp only [Act.put, List.setIfInBounds_toArray, List.set_cons_succ, List.set_cons_zero]
  refine quiet_ext ?_; apply Exists.intro; refine ⟨fun w9 hC => ?_, ?_⟩
  · replace zz0 : w9.cell? ⟨w.heap.size, 0, none⟩ = some (.int .i64 a) := (hC.cell (p := ⟨w.heap.size, 0, none⟩) (by simp <;> omega)).trans (by go_simp); replace zz1 : w9.cell? ⟨w.heap.size, 1, none⟩ = some (.int .i64 b) := (hC.cell (p := ⟨w.heap.size, 1, none⟩) (by simp <;> omega)).trans (by go_simp); replace zz2 : w9.cell? ⟨g, 0, none⟩ = some (.int .i64 off) := (hC.cell (p := ⟨g, 0, none⟩) (by simp <;> omega)).trans (by go_simp); go_simp; first | done | exact rfl | exact ⟨rfl, rfl⟩
  simp only [Act.put, List.setIfInBounds_toArray, List.set_cons_succ, List.set_cons_zero]
  refine quiet_ext ?_; apply Exists.intro; refine ⟨fun w9 hC => ?_, ?_⟩
  · replace zz0 : w9.cell? ⟨w.heap.size, 0, none⟩ = some (.int .i64 a) := (hC.cell (p := ⟨w.heap.size, 0, none⟩) (by simp <;> omega)).trans (by go_simp); replace zz1 : w9.cell? ⟨w.heap.size, 1, none⟩ = some (.int .i64 b) := (hC.cell (p := ⟨w.heap.size, 1, none⟩) (by simp <;> omega)).trans (by go_simp); replace zz2 : w9.cell? ⟨g, 0, none⟩ = some (.int .i64 off) := (hC.cell (p := ⟨g, 0, none⟩) (by simp <;> omega)).trans (by go_simp); go_simp; first | done | exact rfl | exact ⟨rfl, rfl⟩
  simp only [Act.put, List.setIfInBounds_toArray, List.set_cons_succ, List.set_cons_zero]
  refine quiet_ext ?_; apply Exists.intro; refine ⟨fun w9 hC => ?_, ?_⟩
  · replace zz0 : w9.cell? ⟨w.heap.size, 0, none⟩ = some (.int .i64 a) := (hC.cell (p := ⟨w.heap.size, 0, none⟩) (by simp <;> omega)).trans (by go_simp); replace zz1 : w9.cell? ⟨w.heap.size, 1, none⟩ = some (.int .i64 b) := (hC.cell (p := ⟨w.heap.size, 1, none⟩) (by simp <;> omega)).trans (by go_simp); replace zz2 : w9.cell? ⟨g, 0, none⟩ = some (.int .i64 off) := (hC.cell (p := ⟨g, 0, none⟩) (by simp <;> omega)).trans (by go_simp); go_simp; first | done | exact rfl | exact ⟨rfl, rfl⟩
  simp only [Act.put, List.setIfInBounds_toArray, List.set_cons_succ, List.set_cons_zero]
  refine wpQuiet_nil ?_
  intro w2 hC
  have hb2 := hC.below
  have z2 := hb2.size; (try simp at z2)
  replace y0 : g < w2.heap.size := by omega
  replace y1 : w.heap.size < w2.heap.size := by omega
  replace G : w.grownBy w2 (some g) := gb_call G hb2
  replace k0 : w2.cell? ⟨w.heap.size, 0, none⟩ = some (.int .i64 a) := (hb2.cell (p := ⟨w.heap.size, 0, none⟩) (by simp <;> omega)).trans (by go_simp); replace k1 : w2.cell? ⟨w.heap.size, 1, none⟩ = some (.int .i64 b) := (hb2.cell (p := ⟨w.heap.size, 1, none⟩) (by simp <;> omega)).trans (by go_simp)
  replace g0 : w2.cell? ⟨g, 0, none⟩ = some (.int .i64 off) := (hb2.cell (p := ⟨g, 0, none⟩) (by simp <;> omega)).trans (by go_simp)
  replace q0 : w2.cell? ⟨g, 1, none⟩ = some (.int .i64 la) := (hb2.cell (p := ⟨g, 1, none⟩) (by simp <;> omega)).trans (by go_simp); replace q0f : w2.frozen? ⟨g, 1, none⟩ = false := (hb2.frozen (p := ⟨g, 1, none⟩) (by simp <;> omega)).trans (by go_simp); replace q1 : w2.cell? ⟨g, 2, none⟩ = some (.int .i64 lb) := (hb2.cell (p := ⟨g, 2, none⟩) (by simp <;> omega)).trans (by go_simp); replace q1f : w2.frozen? ⟨g, 2, none⟩ = false := (hb2.frozen (p := ⟨g, 2, none⟩) (by simp <;> omega)).trans (by go_simp)
  clear hC hb2
  go_wp2_with fail
  refine wp_region_below (by kernel_rfl) (by kernel_rfl) ?_
  refine quiet_ext ?_; apply Exists.intro; refine ⟨fun w9 hC => ?_, ?_⟩
  · replace zz0 : w9.cell? ⟨w.heap.size, 0, none⟩ = some (.int .i64 a) := (hC.cell (p := ⟨w.heap.size, 0, none⟩) (by simp <;> omega)).trans (by go_simp); replace zz1 : w9.cell? ⟨w.heap.size, 1, none⟩ = some (.int .i64 b) := (hC.cell (p := ⟨w.heap.size, 1, none⟩) (by simp <;> omega)).trans (by go_simp); replace zz2 : w9.cell? ⟨g, 0, none⟩ = some (.int .i64 off) := (hC.cell (p := ⟨g, 0, none⟩) (by simp <;> omega)).trans (by go_simp); replace zz3 : w9.cell? ⟨g, 1, none⟩ = some (.int .i64 la) := (hC.cell (p := ⟨g, 1, none⟩) (by simp <;> omega)).trans (by go_simp); replace zz4 : w9.cell? ⟨g, 2, none⟩ = some (.int .i64 lb) := (hC.cell (p := ⟨g, 2, none⟩) (by simp <;> omega)).trans (by go_simp); go_simp; first | done | exact rfl | exact ⟨rfl, rfl⟩
  simp only [Act.put, List.setIfInBounds_toArray, List.set_cons_succ, List.set_cons_zero]
  refine quiet_ext ?_; apply Exists.intro; refine ⟨fun w9 hC => ?_, ?_⟩
  · replace zz0 : w9.cell? ⟨w.heap.size, 0, none⟩ = some (.int .i64 a) := (hC.cell (p := ⟨w.heap.size, 0, none⟩) (by simp <;> omega)).trans (by go_simp); replace zz1 : w9.cell? ⟨w.heap.size, 1, none⟩ = some (.int .i64 b) := (hC.cell (p := ⟨w.heap.size, 1, none⟩) (by simp <;> omega)).trans (by go_simp); replace zz2 : w9.cell? ⟨g, 0, none⟩ = some (.int .i64 off) := (hC.cell (p := ⟨g, 0, none⟩) (by simp <;> omega)).trans (by go_simp); replace zz3 : w9.cell? ⟨g, 1, none⟩ = some (.int .i64 la) := (hC.cell (p := ⟨g, 1, none⟩) (by simp <;> omega)).trans (by go_simp); replace zz4 : w9.cell? ⟨g, 2, none⟩ = some (.int .i64 lb) := (hC.cell (p := ⟨g, 2, none⟩) (by simp <;> omega)).trans (by go_simp); go_simp; first | done | exact rfl | exact ⟨rfl, rfl⟩
  simp only [Act.put, List.setIfInBounds_toArray, List.set_cons_succ, List.set_cons_zero]
  refine quiet_ext ?_; apply Exists.intro; refine ⟨fun w9 hC => ?_, ?_⟩
  · replace zz0 : w9.cell? ⟨w.heap.size, 0, none⟩ = some (.int .i64 a) := (hC.cell (p := ⟨w.heap.size, 0, none⟩) (by simp <;> omega)).trans (by go_simp); replace zz1 : w9.cell? ⟨w.heap.size, 1, none⟩ = some (.int .i64 b) := (hC.cell (p := ⟨w.heap.size, 1, none⟩) (by simp <;> omega)).trans (by go_simp); replace zz2 : w9.cell? ⟨g, 0, none⟩ = some (.int .i64 off) := (hC.cell (p := ⟨g, 0, none⟩) (by simp <;> omega)).trans (by go_simp); replace zz3 : w9.cell? ⟨g, 1, none⟩ = some (.int .i64 la) := (hC.cell (p := ⟨g, 1, none⟩) (by simp <;> omega)).trans (by go_simp); replace zz4 : w9.cell? ⟨g, 2, none⟩ = some (.int .i64 lb) := (hC.cell (p := ⟨g, 2, none⟩) (by simp <;> omega)).trans (by go_simp); go_simp; first | done | exact rfl | exact ⟨rfl, rfl⟩
  simp only [Act.put, List.setIfInBounds_toArray, List.set_cons_succ, List.set_cons_zero]
  refine quiet_ext ?_; apply Exists.intro; refine ⟨fun w9 hC => ?_, ?_⟩
  · replace zz0 : w9.cell? ⟨w.heap.size, 0, none⟩ = some (.int .i64 a) := (hC.cell (p := ⟨w.heap.size, 0, none⟩) (by simp <;> omega)).trans (by go_simp); replace zz1 : w9.cell? ⟨w.heap.size, 1, none⟩ = some (.int .i64 b) := (hC.cell (p := ⟨w.heap.size, 1, none⟩) (by simp <;> omega)).trans (by go_simp); replace zz2 : w9.cell? ⟨g, 0, none⟩ = some (.int .i64 off) := (hC.cell (p := ⟨g, 0, none⟩) (by simp <;> omega)).trans (by go_simp); replace zz3 : w9.cell? ⟨g, 1, none⟩ = some (.int .i64 la) := (hC.cell (p := ⟨g, 1, none⟩) (by simp <;> omega)).trans (by go_simp); replace zz4 : w9.cell? ⟨g, 2, none⟩ = some (.int .i64 lb) := (hC.cell (p := ⟨g, 2, none⟩) (by simp <;> omega)).trans (by go_simp); go_simp; first | done | exact rfl | exact ⟨rfl, rfl⟩
  simp only [Act.put, List.setIfInBounds_toArray, List.set_cons_succ, List.set_cons_zero]
  refine quiet_ext ?_; apply Exists.intro; refine ⟨fun w9 hC => ?_, ?_⟩
  · replace zz0 : w9.cell? ⟨w.heap.size, 0, none⟩ = some (.int .i64 a) := (hC.cell (p := ⟨w.heap.size, 0, none⟩) (by simp <;> omega)).trans (by go_simp); replace zz1 : w9.cell? ⟨w.heap.size, 1, none⟩ = some (.int .i64 b) := (hC.cell (p := ⟨w.heap.size, 1, none⟩) (by simp <;> omega)).trans (by go_simp); replace zz2 : w9.cell? ⟨g, 0, none⟩ = some (.int .i64 off) := (hC.cell (p := ⟨g, 0, none⟩) (by simp <;> omega)).trans (by go_simp); replace zz3 : w9.cell? ⟨g, 1, none⟩ = some (.int .i64 la) := (hC.cell (p := ⟨g, 1, none⟩) (by simp <;> omega)).trans (by go_simp); replace zz4 : w9.cell? ⟨g, 2, none⟩ = some (.int .i64 lb) := (hC.cell (p := ⟨g, 2, none⟩) (by simp <;> omega)).trans (by go_simp); go_simp; first | done | exact rfl | exact ⟨rfl, rfl⟩
  simp only [Act.put, List.setIfInBounds_toArray, List.set_cons_succ, List.set_cons_zero]
  refine quiet_ext ?_; apply Exists.intro; refine ⟨fun w9 hC => ?_, ?_⟩
  · replace zz0 : w9.cell? ⟨w.heap.size, 0, none⟩ = some (.int .i64 a) := (hC.cell (p := ⟨w.heap.size, 0, none⟩) (by simp <;> omega)).trans (by go_simp); replace zz1 : w9.cell? ⟨w.heap.size, 1, none⟩ = some (.int .i64 b) := (hC.cell (p := ⟨w.heap.size, 1, none⟩) (by simp <;> omega)).trans (by go_simp); replace zz2 : w9.cell? ⟨g, 0, none⟩ = some (.int .i64 off) := (hC.cell (p := ⟨g, 0, none⟩) (by simp <;> omega)).trans (by go_simp); replace zz3 : w9.cell? ⟨g, 1, none⟩ = some (.int .i64 la) := (hC.cell (p := ⟨g, 1, none⟩) (by simp <;> omega)).trans (by go_simp); replace zz4 : w9.cell? ⟨g, 2, none⟩ = some (.int .i64 lb) := (hC.cell (p := ⟨g, 2, none⟩) (by simp <;> omega)).trans (by go_simp); go_simp; exact (rCompare_any a b la lb _).mono fun _ _ h => ⟨h.1, ext_call hC h.2⟩
  simp only [Act.put, List.setIfInBounds_toArray, List.set_cons_succ, List.set_cons_zero]
  refine quiet_ext ?_; apply Exists.intro; refine ⟨fun w9 hC => ?_, ?_⟩
  · replace zz0 : w9.cell? ⟨w.heap.size, 0, none⟩ = some (.int .i64 a) := (hC.cell (p := ⟨w.heap.size, 0, none⟩) (by simp <;> omega)).trans (by go_simp); replace zz1 : w9.cell? ⟨w.heap.size, 1, none⟩ = some (.int .i64 b) := (hC.cell (p := ⟨w.heap.size, 1, none⟩) (by simp <;> omega)).trans (by go_simp); replace zz2 : w9.cell? ⟨g, 0, none⟩ = some (.int .i64 off) := (hC.cell (p := ⟨g, 0, none⟩) (by simp <;> omega)).trans (by go_simp); replace zz3 : w9.cell? ⟨g, 1, none⟩ = some (.int .i64 la) := (hC.cell (p := ⟨g, 1, none⟩) (by simp <;> omega)).trans (by go_simp); replace zz4 : w9.cell? ⟨g, 2, none⟩ = some (.int .i64 lb) := (hC.cell (p := ⟨g, 2, none⟩) (by simp <;> omega)).trans (by go_simp); go_simp; first | done | exact rfl | exact ⟨rfl, rfl⟩
  simp only [Act.put, List.setIfInBounds_toArray, List.set_cons_succ, List.set_cons_zero]
  refine wpQuiet_nil ?_
  intro w3 hC
  have hb3 := hC.below
  have z3 := hb3.size; (try simp at z3)
  replace y0 : g < w3.heap.size := by omega
  replace y1 : w.heap.size < w3.heap.size := by omega
  replace G : w.grownBy w3 (some g) := gb_call G hb3
  replace k0 : w3.cell? ⟨w.heap.size, 0, none⟩ = some (.int .i64 a) := (hb3.cell (p := ⟨w.heap.size, 0, none⟩) (by simp <;> omega)).trans (by go_simp); replace k1 : w3.cell? ⟨w.heap.size, 1, none⟩ = some (.int .i64 b) := (hb3.cell (p := ⟨w.heap.size, 1, none⟩) (by simp <;> omega)).trans (by go_simp)
  replace g0 : w3.cell? ⟨g, 0, none⟩ = some (.int .i64 off) := (hb3.cell (p := ⟨g, 0, none⟩) (by simp <;> omega)).trans (by go_simp)
  replace q0 : w3.cell? ⟨g, 1, none⟩ = some (.int .i64 la) := (hb3.cell (p := ⟨g, 1, none⟩) (by simp <;> omega)).trans (by go_simp); replace q0f : w3.frozen? ⟨g, 1, none⟩ = false := (hb3.frozen (p := ⟨g, 1, none⟩) (by simp <;> omega)).trans (by go_simp); replace q1 : w3.cell? ⟨g, 2, none⟩ = some (.int .i64 lb) := (hb3.cell (p := ⟨g, 2, none⟩) (by simp <;> omega)).trans (by go_simp); replace q1f : w3.frozen? ⟨g, 2, none⟩ = false := (hb3.frozen (p := ⟨g, 2, none⟩) (by simp <;> omega)).trans (by go_simp)
  clear hC hb3
  go_wp2_with fail
  go_ret
  exact ⟨rfl, ⟨by first | omega | (simp <;> omega), by go_simp, by go_simp, by go_simp, by go_simp, by go_simp⟩, (by repeat' (first | (with_reducible exact gb_refl _ _) | (with_reducible assumption) | (with_reducible refine gb_set ?_ ?_ _) | (with_reducible refine gb_alloc ?_ _) | (with_reducible refine gb_drew ?_) | (with_reducible refine gb_call ?_ (by assumption)) | exact .inl rfl | exact .inr (by simp <;> omega)))⟩

set_option maxHeartbeats 1000000 in
theorem rlearn3b (g : Nat) (off la lb a b t : Int) (w : World) (h : Clk w g off la lb) (ht : isWall t = true) (hr : right a b = true) (ho : isWall off = true) (hf : a - t ≤ off) (hlt : a ≤ t) (hc : 0 < cmpS a b la lb) :
    Calls Try.prog 28 #[.pointer (some ⟨g, 0, none⟩), .agg #[.int .i64 a, .int .i64 b], .int .i64 t] w (LearnPost g off la lb a b t w) := by
  have e1 : learnE off a b t = 0 := by unfold learnE; rw [if_neg (by simp [ht]), if_neg (by simp [hr]), if_neg (by omega)]
  have e2 : learnL off la lb a b t = (a, b) := by unfold learnL; rw [e1, if_pos ⟨rfl, hc⟩]
  unfold LearnPost
  rw [e1, e2]
  clear e1 e2
  have hbd := right_iff.1 hr
  have hbt : 0 ≤ t ∧ t ≤ 9007199254740991 := by simpa [isWall] using ht
  have hbo : 0 ≤ off ∧ off ≤ 9007199254740991 := by simpa [isWall] using ho
  have hw := IntWalk.i64_in (a - t) (by omega)
  have hf1 : decide (off < a - t) = false := by simp; omega
  have hf0 : decide (t < a) = false := by simp; omega
  have hc1 : decide (0 < cmpS a b la lb) = true := by simp; omega
  clear hf ho hc hlt
  have ht1 : (!isWall t) = false := by simp [ht]
  have hr1 : (!right a b) = false := by simp [hr]
  clear ht hr
  obtain ⟨lt, c0, c1, c2, f1, f2⟩ := h
  go_enter Try.func28, Try.ntmps28
  go_wp2_with (go_at_call 23; refine (rIsWall_any _ _).mono ?_; rintro e w' ⟨rfl, rfl⟩)
  refine (rRight_any a b _).mono ?_
  rintro e w1 ⟨rfl, hb1⟩
  have z := hb1.size; (try simp at z)
  have y0 : g < w1.heap.size := by omega
  have y1 : w.heap.size < w1.heap.size := by omega
  have G : w.grownBy w1 (some g) := (by repeat' (first | (with_reducible exact gb_refl _ _) | (with_reducible assumption) | (with_reducible refine gb_set ?_ ?_ _) | (with_reducible refine gb_alloc ?_ _) | (with_reducible refine gb_drew ?_) | (with_reducible refine gb_call ?_ (by assumption)) | exact .inl rfl | exact .inr (by simp <;> omega)))
  replace k0 : w1.cell? ⟨w.heap.size, 0, none⟩ = some (.int .i64 a) := (hb1.cell (p := ⟨w.heap.size, 0, none⟩) (by simp <;> omega)).trans (by go_simp); replace k1 : w1.cell? ⟨w.heap.size, 1, none⟩ = some (.int .i64 b) := (hb1.cell (p := ⟨w.heap.size, 1, none⟩) (by simp <;> omega)).trans (by go_simp)
  replace g0 : w1.cell? ⟨g, 0, none⟩ = some (.int .i64 off) := (hb1.cell (p := ⟨g, 0, none⟩) (by simp <;> omega)).trans (by go_simp)
  replace q0 : w1.cell? ⟨g, 1, none⟩ = some (.int .i64 la) := (hb1.cell (p := ⟨g, 1, none⟩) (by simp <;> omega)).trans (by go_simp); replace q0f : w1.frozen? ⟨g, 1, none⟩ = false := (hb1.frozen (p := ⟨g, 1, none⟩) (by simp <;> omega)).trans (by go_simp); replace q1 : w1.cell? ⟨g, 2, none⟩ = some (.int .i64 lb) := (hb1.cell (p := ⟨g, 2, none⟩) (by simp <;> omega)).trans (by go_simp); replace q1f : w1.frozen? ⟨g, 2, none⟩ = false := (hb1.frozen (p := ⟨g, 2, none⟩) (by simp <;> omega)).trans (by go_simp)
  clear hb1 c0 c1 c2 f1 f2
  go_wp2_with fail
  refine wp_region_below (by kernel_rfl) (by kernel_rfl) ?_
  refine quiet_ext ?_; apply Exists.intro; refine ⟨fun w9 hC => ?_, ?_⟩
  · replace zz0 : w9.cell? ⟨w.heap.size, 0, none⟩ = some (.int .i64 a) := (hC.cell (p := ⟨w.heap.size, 0, none⟩) (by simp <;> omega)).trans (by go_simp); replace zz1 : w9.cell? ⟨w.heap.size, 1, none⟩ = some (.int .i64 b) := (hC.cell (p := ⟨w.heap.size, 1, none⟩) (by simp <;> omega)).trans (by go_simp); replace zz2 : w9.cell? ⟨g, 0, none⟩ = some (.int .i64 off) := (hC.cell (p := ⟨g, 0, none⟩) (by simp <;> omega)).trans (by go_simp); go_simp; first | done | exact rfl | exact ⟨rfl, rfl⟩
  simp only [Act.put, List.setIfInBounds_toArray, List.set_cons_succ, List.set_cons_zero]
  refine quiet_ext ?_; apply Exists.intro; refine ⟨fun w9 hC => ?_, ?_⟩
  · replace zz0 : w9.cell? ⟨w.heap.size, 0, none⟩ = some (.int .i64 a) := (hC.cell (p := ⟨w.heap.size, 0, none⟩) (by simp <;> omega)).trans (by go_simp); replace zz1 : w9.cell? ⟨w.heap.size, 1, none⟩ = some (.int .i64 b) := (hC.cell (p := ⟨w.heap.size, 1, none⟩) (by simp <;> omega)).trans (by go_simp); replace zz2 : w9.cell? ⟨g, 0, none⟩ = some (.int .i64 off) := (hC.cell (p := ⟨g, 0, none⟩) (by simp <;> omega)).trans (by go_simp); go_simp; first | done | exact rfl | exact ⟨rfl, rfl⟩
  simp only [Act.put, List.setIfInBounds_toArray, List.set_cons_succ, List.set_cons_zero]
  refine quiet_ext ?_; apply Exists.intro; refine ⟨fun w9 hC => ?_, ?_⟩
  · replace zz0 : w9.cell? ⟨w.heap.size, 0, none⟩ = some (.int .i64 a) := (hC.cell (p := ⟨w.heap.size, 0, none⟩) (by simp <;> omega)).trans (by go_simp); replace zz1 : w9.cell? ⟨w.heap.size, 1, none⟩ = some (.int .i64 b) := (hC.cell (p := ⟨w.heap.size, 1, none⟩) (by simp <;> omega)).trans (by go_simp); replace zz2 : w9.cell? ⟨g, 0, none⟩ = some (.int .i64 off) := (hC.cell (p := ⟨g, 0, none⟩) (by simp <;> omega)).trans (by go_simp); go_simp; first | done | exact rfl | exact ⟨rfl, rfl⟩
  simp only [Act.put, List.setIfInBounds_toArray, List.set_cons_succ, List.set_cons_zero]
  refine quiet_ext ?_; apply Exists.intro; refine ⟨fun w9 hC => ?_, ?_⟩
  · replace zz0 : w9.cell? ⟨w.heap.size, 0, none⟩ = some (.int .i64 a) := (hC.cell (p := ⟨w.heap.size, 0, none⟩) (by simp <;> omega)).trans (by go_simp); replace zz1 : w9.cell? ⟨w.heap.size, 1, none⟩ = some (.int .i64 b) := (hC.cell (p := ⟨w.heap.size, 1, none⟩) (by simp <;> omega)).trans (by go_simp); replace zz2 : w9.cell? ⟨g, 0, none⟩ = some (.int .i64 off) := (hC.cell (p := ⟨g, 0, none⟩) (by simp <;> omega)).trans (by go_simp); go_simp; first | done | exact rfl | exact ⟨rfl, rfl⟩
  simp only [Act.put, List.setIfInBounds_toArray, List.set_cons_succ, List.set_cons_zero]
  refine quiet_ext ?_; apply Exists.intro; refine ⟨fun w9 hC => ?_, ?_⟩
  · replace zz0 : w9.cell? ⟨w.heap.size, 0, none⟩ = some (.int .i64 a) := (hC.cell (p := ⟨w.heap.size, 0, none⟩) (by simp <;> omega)).trans (by go_simp); replace zz1 : w9.cell? ⟨w.heap.size, 1, none⟩ = some (.int .i64 b) := (hC.cell (p := ⟨w.heap.size, 1, none⟩) (by simp <;> omega)).trans (by go_simp); replace zz2 : w9.cell? ⟨g, 0, none⟩ = some (.int .i64 off) := (hC.cell (p := ⟨g, 0, none⟩) (by simp <;> omega)).trans (by go_simp); go_simp; first | done | exact rfl | exact ⟨rfl, rfl⟩
  simp only [Act.put, List.setIfInBounds_toArray, List.set_cons_succ, List.set_cons_zero]
  refine quiet_ext ?_; apply Exists.intro; refine ⟨fun w9 hC => ?_, ?_⟩
  · replace zz0 : w9.cell? ⟨w.heap.size, 0, none⟩ = some (.int .i64 a) := (hC.cell (p := ⟨w.heap.size, 0, none⟩) (by simp <;> omega)).trans (by go_simp); replace zz1 : w9.cell? ⟨w.heap.size, 1, none⟩ = some (.int .i64 b) := (hC.cell (p := ⟨w.heap.size, 1, none⟩) (by simp <;> omega)).trans (by go_simp); replace zz2 : w9.cell? ⟨g, 0, none⟩ = some (.int .i64 off) := (hC.cell (p := ⟨g, 0, none⟩) (by simp <;> omega)).trans (by go_simp); go_simp; first | done | exact rfl | exact ⟨rfl, rfl⟩
  simp only [Act.put, List.setIfInBounds_toArray, List.set_cons_succ, List.set_cons_zero]
  refine quiet_ext ?_; apply Exists.intro; refine ⟨fun w9 hC => ?_, ?_⟩
  · replace zz0 : w9.cell? ⟨w.heap.size, 0, none⟩ = some (.int .i64 a) := (hC.cell (p := ⟨w.heap.size, 0, none⟩) (by simp <;> omega)).trans (by go_simp); replace zz1 : w9.cell? ⟨w.heap.size, 1, none⟩ = some (.int .i64 b) := (hC.cell (p := ⟨w.heap.size, 1, none⟩) (by simp <;> omega)).trans (by go_simp); replace zz2 : w9.cell? ⟨g, 0, none⟩ = some (.int .i64 off) := (hC.cell (p := ⟨g, 0, none⟩) (by simp <;> omega)).trans (by go_simp); go_simp; first | done | exact rfl | exact ⟨rfl, rfl⟩
  simp only [Act.put, List.setIfInBounds_toArray, List.set_cons_succ, List.set_cons_zero]
  refine quiet_ext ?_; apply Exists.intro; refine ⟨fun w9 hC => ?_, ?_⟩
  · replace zz0 : w9.cell? ⟨w.heap.size, 0, none⟩ = some (.int .i64 a) := (hC.cell (p := ⟨w.heap.size, 0, none⟩) (by simp <;> omega)).trans (by go_simp); replace zz1 : w9.cell? ⟨w.heap.size, 1, none⟩ = some (.int .i64 b) := (hC.cell (p := ⟨w.heap.size, 1, none⟩) (by simp <;> omega)).trans (by go_simp); replace zz2 : w9.cell? ⟨g, 0, none⟩ = some (.int .i64 off) := (hC.cell (p := ⟨g, 0, none⟩) (by simp <;> omega)).trans (by go_simp); go_simp; first | done | exact rfl | exact ⟨rfl, rfl⟩
  simp only [Act.put, List.setIfInBounds_toArray, List.set_cons_succ, List.set_cons_zero]
  refine quiet_ext ?_; apply Exists.intro; refine ⟨fun w9 hC => ?_, ?_⟩
  · replace zz0 : w9.cell? ⟨w.heap.size, 0, none⟩ = some (.int .i64 a) := (hC.cell (p := ⟨w.heap.size, 0, none⟩) (by simp <;> omega)).trans (by go_simp); replace zz1 : w9.cell? ⟨w.heap.size, 1, none⟩ = some (.int .i64 b) := (hC.cell (p := ⟨w.heap.size, 1, none⟩) (by simp <;> omega)).trans (by go_simp); replace zz2 : w9.cell? ⟨g, 0, none⟩ = some (.int .i64 off) := (hC.cell (p := ⟨g, 0, none⟩) (by simp <;> omega)).trans (by go_simp); go_simp; first | done | exact rfl | exact ⟨rfl, rfl⟩
  simp only [Act.put, List.setIfInBounds_toArray, List.set_cons_succ, List.set_cons_zero]
  refine quiet_ext ?_; apply Exists.intro; refine ⟨fun w9 hC => ?_, ?_⟩
  · replace zz0 : w9.cell? ⟨w.heap.size, 0, none⟩ = some (.int .i64 a) := (hC.cell (p := ⟨w.heap.size, 0, none⟩) (by simp <;> omega)).trans (by go_simp); replace zz1 : w9.cell? ⟨w.heap.size, 1, none⟩ = some (.int .i64 b) := (hC.cell (p := ⟨w.heap.size, 1, none⟩) (by simp <;> omega)).trans (by go_simp); replace zz2 : w9.cell? ⟨g, 0, none⟩ = some (.int .i64 off) := (hC.cell (p := ⟨g, 0, none⟩) (by simp <;> omega)).trans (by go_simp); go_simp; first | done | exact rfl | exact ⟨rfl, rfl⟩
  simp only [Act.put, List.setIfInBounds_toArray, List.set_cons_succ, List.set_cons_zero]
  refine quiet_ext ?_; apply Exists.intro; refine ⟨fun w9 hC => ?_, ?_⟩
  · replace zz0 : w9.cell? ⟨w.heap.size, 0, none⟩ = some (.int .i64 a) := (hC.cell (p := ⟨w.heap.size, 0, none⟩) (by simp <;> omega)).trans (by go_simp); replace zz1 : w9.cell? ⟨w.heap.size, 1, none⟩ = some (.int .i64 b) := (hC.cell (p := ⟨w.heap.size, 1, none⟩) (by simp <;> omega)).trans (by go_simp); replace zz2 : w9.cell? ⟨g, 0, none⟩ = some (.int .i64 off) := (hC.cell (p := ⟨g, 0, none⟩) (by simp <;> omega)).trans (by go_simp); go_simp; first | done | exact rfl | exact ⟨rfl, rfl⟩
  simp only [Act.put, List.setIfInBounds_toArray, List.set_cons_succ, List.set_cons_zero]
  refine quiet_ext ?_; apply Exists.intro; refine ⟨fun w9 hC => ?_, ?_⟩
  · replace zz0 : w9.cell? ⟨w.heap.size, 0, none⟩ = some (.int .i64 a) := (hC.cell (p := ⟨w.heap.size, 0, none⟩) (by simp <;> omega)).trans (by go_simp); replace zz1 : w9.cell? ⟨w.heap.size, 1, none⟩ = some (.int .i64 b) := (hC.cell (p := ⟨w.heap.size, 1, none⟩) (by simp <;> omega)).trans (by go_simp); replace zz2 : w9.cell? ⟨g, 0, none⟩ = some (.int .i64 off) := (hC.cell (p := ⟨g, 0, none⟩) (by simp <;> omega)).trans (by go_simp); go_simp; first | done | exact rfl | exact ⟨rfl, rfl⟩
  simp only [Act.put, List.setIfInBounds_toArray, List.set_cons_succ, List.set_cons_zero]
  refine quiet_ext ?_; apply Exists.intro; refine ⟨fun w9 hC => ?_, ?_⟩
  · replace zz0 : w9.cell? ⟨w.heap.size, 0, none⟩ = some (.int .i64 a) := (hC.cell (p := ⟨w.heap.size, 0, none⟩) (by simp <;> omega)).trans (by go_simp); replace zz1 : w9.cell? ⟨w.heap.size, 1, none⟩ = some (.int .i64 b) := (hC.cell (p := ⟨w.heap.size, 1, none⟩) (by simp <;> omega)).trans (by go_simp); replace zz2 : w9.cell? ⟨g, 0, none⟩ = some (.int .i64 off) := (hC.cell (p := ⟨g, 0, none⟩) (by simp <;> omega)).trans (by go_simp); go_simp; first | done | exact rfl | exact ⟨rfl, rfl⟩
  simp only [Act.put, List.setIfInBounds_toArray, List.set_cons_succ, List.set_cons_zero]
  refine quiet_ext ?_; apply Exists.intro; refine ⟨fun w9 hC => ?_, ?_⟩
  · replace zz0 : w9.cell? ⟨w.heap.size, 0, none⟩ = some (.int .i64 a) := (hC.cell (p := ⟨w.heap.size, 0, none⟩) (by simp <;> omega)).trans (by go_simp); replace zz1 : w9.cell? ⟨w.heap.size, 1, none⟩ = some (.int .i64 b) := (hC.cell (p := ⟨w.heap.size, 1, none⟩) (by simp <;> omega)).trans (by go_simp); replace zz2 : w9.cell? ⟨g, 0, none⟩ = some (.int .i64 off) := (hC.cell (p := ⟨g, 0, none⟩) (by simp <;> omega)).trans (by go_simp); go_simp; first | done | exact rfl | exact ⟨rfl, rfl⟩
  simp only [Act.put, List.setIfInBounds_toArray, List.set_cons_succ, List.set_cons_zero]
  refine quiet_ext ?_; apply Exists.intro; refine ⟨fun w9 hC => ?_, ?_⟩
  · replace zz0 : w9.cell? ⟨w.heap.size, 0, none⟩ = some (.int .i64 a) := (hC.cell (p := ⟨w.heap.size, 0, none⟩) (by simp <;> omega)).trans (by go_simp); replace zz1 : w9.cell? ⟨w.heap.size, 1, none⟩ = some (.int .i64 b) := (hC.cell (p := ⟨w.heap.size, 1, none⟩) (by simp <;> omega)).trans (by go_simp); replace zz2 : w9.cell? ⟨g, 0, none⟩ = some (.int .i64 off) := (hC.cell (p := ⟨g, 0, none⟩) (by simp <;> omega)).trans (by go_simp); go_simp; first | done | exact rfl | exact ⟨rfl, rfl⟩
  simp only [Act.put, List.setIfInBounds_toArray, List.set_cons_succ, List.set_cons_zero]
  refine wpQuiet_nil ?_
  intro w2 hC
  have hb2 := hC.below
  have z2 := hb2.size; (try simp at z2)
  replace y0 : g < w2.heap.size := by omega
  replace y1 : w.heap.size < w2.heap.size := by omega
  replace G : w.grownBy w2 (some g) := gb_call G hb2
  replace k0 : w2.cell? ⟨w.heap.size, 0, none⟩ = some (.int .i64 a) := (hb2.cell (p := ⟨w.heap.size, 0, none⟩) (by simp <;> omega)).trans (by go_simp); replace k1 : w2.cell? ⟨w.heap.size, 1, none⟩ = some (.int .i64 b) := (hb2.cell (p := ⟨w.heap.size, 1, none⟩) (by simp <;> omega)).trans (by go_simp)
  replace g0 : w2.cell? ⟨g, 0, none⟩ = some (.int .i64 off) := (hb2.cell (p := ⟨g, 0, none⟩) (by simp <;> omega)).trans (by go_simp)
  replace q0 : w2.cell? ⟨g, 1, none⟩ = some (.int .i64 la) := (hb2.cell (p := ⟨g, 1, none⟩) (by simp <;> omega)).trans (by go_simp); replace q0f : w2.frozen? ⟨g, 1, none⟩ = false := (hb2.frozen (p := ⟨g, 1, none⟩) (by simp <;> omega)).trans (by go_simp); replace q1 : w2.cell? ⟨g, 2, none⟩ = some (.int .i64 lb) := (hb2.cell (p := ⟨g, 2, none⟩) (by simp <;> omega)).trans (by go_simp); replace q1f : w2.frozen? ⟨g, 2, none⟩ = false := (hb2.frozen (p := ⟨g, 2, none⟩) (by simp <;> omega)).trans (by go_simp)
  clear hC hb2
  go_wp2_with fail
  refine wp_region_below (by kernel_rfl) (by kernel_rfl) ?_
  refine quiet_ext ?_; apply Exists.intro; refine ⟨fun w9 hC => ?_, ?_⟩
  · replace zz0 : w9.cell? ⟨w.heap.size, 0, none⟩ = some (.int .i64 a) := (hC.cell (p := ⟨w.heap.size, 0, none⟩) (by simp <;> omega)).trans (by go_simp); replace zz1 : w9.cell? ⟨w.heap.size, 1, none⟩ = some (.int .i64 b) := (hC.cell (p := ⟨w.heap.size, 1, none⟩) (by simp <;> omega)).trans (by go_simp); replace zz2 : w9.cell? ⟨g, 0, none⟩ = some (.int .i64 off) := (hC.cell (p := ⟨g, 0, none⟩) (by simp <;> omega)).trans (by go_simp); replace zz3 : w9.cell? ⟨g, 1, none⟩ = some (.int .i64 la) := (hC.cell (p := ⟨g, 1, none⟩) (by simp <;> omega)).trans (by go_simp); replace zz4 : w9.cell? ⟨g, 2, none⟩ = some (.int .i64 lb) := (hC.cell (p := ⟨g, 2, none⟩) (by simp <;> omega)).trans (by go_simp); go_simp; first | done | exact rfl | exact ⟨rfl, rfl⟩
  simp only [Act.put, List.setIfInBounds_toArray, List.set_cons_succ, List.set_cons_zero]
  refine quiet_ext ?_; apply Exists.intro; refine ⟨fun w9 hC => ?_, ?_⟩
  · replace zz0 : w9.cell? ⟨w.heap.size, 0, none⟩ = some (.int .i64 a) := (hC.cell (p := ⟨w.heap.size, 0, none⟩) (by simp <;> omega)).trans (by go_simp); replace zz1 : w9.cell? ⟨w.heap.size, 1, none⟩ = some (.int .i64 b) := (hC.cell (p := ⟨w.heap.size, 1, none⟩) (by simp <;> omega)).trans (by go_simp); replace zz2 : w9.cell? ⟨g, 0, none⟩ = some (.int .i64 off) := (hC.cell (p := ⟨g, 0, none⟩) (by simp <;> omega)).trans (by go_simp); replace zz3 : w9.cell? ⟨g, 1, none⟩ = some (.int .i64 la) := (hC.cell (p := ⟨g, 1, none⟩) (by simp <;> omega)).trans (by go_simp); replace zz4 : w9.cell? ⟨g, 2, none⟩ = some (.int .i64 lb) := (hC.cell (p := ⟨g, 2, none⟩) (by simp <;> omega)).trans (by go_simp); go_simp; first | done | exact rfl | exact ⟨rfl, rfl⟩
  simp only [Act.put, List.setIfInBounds_toArray, List.set_cons_succ, List.set_cons_zero]
  refine quiet_ext ?_; apply Exists.intro; refine ⟨fun w9 hC => ?_, ?_⟩
  · replace zz0 : w9.cell? ⟨w.heap.size, 0, none⟩ = some (.int .i64 a) := (hC.cell (p := ⟨w.heap.size, 0, none⟩) (by simp <;> omega)).trans (by go_simp); replace zz1 : w9.cell? ⟨w.heap.size, 1, none⟩ = some (.int .i64 b) := (hC.cell (p := ⟨w.heap.size, 1, none⟩) (by simp <;> omega)).trans (by go_simp); replace zz2 : w9.cell? ⟨g, 0, none⟩ = some (.int .i64 off) := (hC.cell (p := ⟨g, 0, none⟩) (by simp <;> omega)).trans (by go_simp); replace zz3 : w9.cell? ⟨g, 1, none⟩ = some (.int .i64 la) := (hC.cell (p := ⟨g, 1, none⟩) (by simp <;> omega)).trans (by go_simp); replace zz4 : w9.cell? ⟨g, 2, none⟩ = some (.int .i64 lb) := (hC.cell (p := ⟨g, 2, none⟩) (by simp <;> omega)).trans (by go_simp); go_simp; first | done | exact rfl | exact ⟨rfl, rfl⟩
  simp only [Act.put, List.setIfInBounds_toArray, List.set_cons_succ, List.set_cons_zero]
  refine quiet_ext ?_; apply Exists.intro; refine ⟨fun w9 hC => ?_, ?_⟩
  · replace zz0 : w9.cell? ⟨w.heap.size, 0, none⟩ = some (.int .i64 a) := (hC.cell (p := ⟨w.heap.size, 0, none⟩) (by simp <;> omega)).trans (by go_simp); replace zz1 : w9.cell? ⟨w.heap.size, 1, none⟩ = some (.int .i64 b) := (hC.cell (p := ⟨w.heap.size, 1, none⟩) (by simp <;> omega)).trans (by go_simp); replace zz2 : w9.cell? ⟨g, 0, none⟩ = some (.int .i64 off) := (hC.cell (p := ⟨g, 0, none⟩) (by simp <;> omega)).trans (by go_simp); replace zz3 : w9.cell? ⟨g, 1, none⟩ = some (.int .i64 la) := (hC.cell (p := ⟨g, 1, none⟩) (by simp <;> omega)).trans (by go_simp); replace zz4 : w9.cell? ⟨g, 2, none⟩ = some (.int .i64 lb) := (hC.cell (p := ⟨g, 2, none⟩) (by simp <;> omega)).trans (by go_simp); go_simp; first | done | exact rfl | exact ⟨rfl, rfl⟩
  simp only [Act.put, List.setIfInBounds_toArray, List.set_cons_succ, List.set_cons_zero]
  refine quiet_ext ?_; apply Exists.intro; refine ⟨fun w9 hC => ?_, ?_⟩
  · replace zz0 : w9.cell? ⟨w.heap.size, 0, none⟩ = some (.int .i64 a) := (hC.cell (p := ⟨w.heap.size, 0, none⟩) (by simp <;> omega)).trans (by go_simp); replace zz1 : w9.cell? ⟨w.heap.size, 1, none⟩ = some (.int .i64 b) := (hC.cell (p := ⟨w.heap.size, 1, none⟩) (by simp <;> omega)).trans (by go_simp); replace zz2 : w9.cell? ⟨g, 0, none⟩ = some (.int .i64 off) := (hC.cell (p := ⟨g, 0, none⟩) (by simp <;> omega)).trans (by go_simp); replace zz3 : w9.cell? ⟨g, 1, none⟩ = some (.int .i64 la) := (hC.cell (p := ⟨g, 1, none⟩) (by simp <;> omega)).trans (by go_simp); replace zz4 : w9.cell? ⟨g, 2, none⟩ = some (.int .i64 lb) := (hC.cell (p := ⟨g, 2, none⟩) (by simp <;> omega)).trans (by go_simp); go_simp; first | done | exact rfl | exact ⟨rfl, rfl⟩
  simp only [Act.put, List.setIfInBounds_toArray, List.set_cons_succ, List.set_cons_zero]
  refine quiet_ext ?_; apply Exists.intro; refine ⟨fun w9 hC => ?_, ?_⟩
  · replace zz0 : w9.cell? ⟨w.heap.size, 0, none⟩ = some (.int .i64 a) := (hC.cell (p := ⟨w.heap.size, 0, none⟩) (by simp <;> omega)).trans (by go_simp); replace zz1 : w9.cell? ⟨w.heap.size, 1, none⟩ = some (.int .i64 b) := (hC.cell (p := ⟨w.heap.size, 1, none⟩) (by simp <;> omega)).trans (by go_simp); replace zz2 : w9.cell? ⟨g, 0, none⟩ = some (.int .i64 off) := (hC.cell (p := ⟨g, 0, none⟩) (by simp <;> omega)).trans (by go_simp); replace zz3 : w9.cell? ⟨g, 1, none⟩ = some (.int .i64 la) := (hC.cell (p := ⟨g, 1, none⟩) (by simp <;> omega)).trans (by go_simp); replace zz4 : w9.cell? ⟨g, 2, none⟩ = some (.int .i64 lb) := (hC.cell (p := ⟨g, 2, none⟩) (by simp <;> omega)).trans (by go_simp); go_simp; exact (rCompare_any a b la lb _).mono fun _ _ h => ⟨h.1, ext_call hC h.2⟩
  simp only [Act.put, List.setIfInBounds_toArray, List.set_cons_succ, List.set_cons_zero]
  refine quiet_ext ?_; apply Exists.intro; refine ⟨fun w9 hC => ?_, ?_⟩
  · replace zz0 : w9.cell? ⟨w.heap.size, 0, none⟩ = some (.int .i64 a) := (hC.cell (p := ⟨w.heap.size, 0, none⟩) (by simp <;> omega)).trans (by go_simp); replace zz1 : w9.cell? ⟨w.heap.size, 1, none⟩ = some (.int .i64 b) := (hC.cell (p := ⟨w.heap.size, 1, none⟩) (by simp <;> omega)).trans (by go_simp); replace zz2 : w9.cell? ⟨g, 0, none⟩ = some (.int .i64 off) := (hC.cell (p := ⟨g, 0, none⟩) (by simp <;> omega)).trans (by go_simp); replace zz3 : w9.cell? ⟨g, 1, none⟩ = some (.int .i64 la) := (hC.cell (p := ⟨g, 1, none⟩) (by simp <;> omega)).trans (by go_simp); replace zz4 : w9.cell? ⟨g, 2, none⟩ = some (.int .i64 lb) := (hC.cell (p := ⟨g, 2, none⟩) (by simp <;> omega)).trans (by go_simp); go_simp; first | done | exact rfl | exact ⟨rfl, rfl⟩
  simp only [Act.put, List.setIfInBounds_toArray, List.set_cons_succ, List.set_cons_zero]
  refine wpQuiet_nil ?_
  intro w3 hC
  have hb3 := hC.below
  have z3 := hb3.size; (try simp at z3)
  replace y0 : g < w3.heap.size := by omega
  replace y1 : w.heap.size < w3.heap.size := by omega
  replace G : w.grownBy w3 (some g) := gb_call G hb3
  replace k0 : w3.cell? ⟨w.heap.size, 0, none⟩ = some (.int .i64 a) := (hb3.cell (p := ⟨w.heap.size, 0, none⟩) (by simp <;> omega)).trans (by go_simp); replace k1 : w3.cell? ⟨w.heap.size, 1, none⟩ = some (.int .i64 b) := (hb3.cell (p := ⟨w.heap.size, 1, none⟩) (by simp <;> omega)).trans (by go_simp)
  replace g0 : w3.cell? ⟨g, 0, none⟩ = some (.int .i64 off) := (hb3.cell (p := ⟨g, 0, none⟩) (by simp <;> omega)).trans (by go_simp)
  replace q0 : w3.cell? ⟨g, 1, none⟩ = some (.int .i64 la) := (hb3.cell (p := ⟨g, 1, none⟩) (by simp <;> omega)).trans (by go_simp); replace q0f : w3.frozen? ⟨g, 1, none⟩ = false := (hb3.frozen (p := ⟨g, 1, none⟩) (by simp <;> omega)).trans (by go_simp); replace q1 : w3.cell? ⟨g, 2, none⟩ = some (.int .i64 lb) := (hb3.cell (p := ⟨g, 2, none⟩) (by simp <;> omega)).trans (by go_simp); replace q1f : w3.frozen? ⟨g, 2, none⟩ = false := (hb3.frozen (p := ⟨g, 2, none⟩) (by simp <;> omega)).trans (by go_simp)
  clear hC hb3
  go_wp2_with fail
  go_ret
  exact ⟨rfl, ⟨by first | omega | (simp <;> omega), by go_simp, by go_simp, by go_simp, by go_simp, by go_simp⟩, (by repeat' (first | (with_reducible exact gb_refl _ _) | (with_reducible assumption) | (with_reducible refine gb_set ?_ ?_ _) | (with_reducible refine gb_alloc ?_ _) | (with_reducible refine gb_drew ?_) | (with_reducible refine gb_call ?_ (by assumption)) | exact .inl rfl | exact .inr (by simp <;> omega)))⟩

set_option maxHeartbeats 1000000 in
theorem rlearn4b (g : Nat) (off la lb a b t : Int) (w : World) (h : Clk w g off la lb) (ht : isWall t = true) (hr : right a b = true) (ho : isWall off = true) (hf : a - t ≤ off) (hlt : a ≤ t) (hc : cmpS a b la lb ≤ 0) :
    Calls Try.prog 28 #[.pointer (some ⟨g, 0, none⟩), .agg #[.int .i64 a, .int .i64 b], .int .i64 t] w (LearnPost g off la lb a b t w) := by
  have e1 : learnE off a b t = 0 := by unfold learnE; rw [if_neg (by simp [ht]), if_neg (by simp [hr]), if_neg (by omega)]
  have e2 : learnL off la lb a b t = (la, lb) := by unfold learnL; rw [e1, if_neg (by omega)]
  unfold LearnPost
  rw [e1, e2]
  clear e1 e2
  have hbd := right_iff.1 hr
  have hbt : 0 ≤ t ∧ t ≤ 9007199254740991 := by simpa [isWall] using ht
  have hbo : 0 ≤ off ∧ off ≤ 9007199254740991 := by simpa [isWall] using ho
  have hw := IntWalk.i64_in (a - t) (by omega)
  have hf1 : decide (off < a - t) = false := by simp; omega
  have hf0 : decide (t < a) = false := by simp; omega
  have hc1 : decide (0 < cmpS a b la lb) = false := by simp; omega
  clear hf ho hc hlt
  have ht1 : (!isWall t) = false := by simp [ht]
  have hr1 : (!right a b) = false := by simp [hr]
  clear ht hr
  obtain ⟨lt, c0, c1, c2, f1, f2⟩ := h
  go_enter Try.func28, Try.ntmps28
  go_wp2_with (go_at_call 23; refine (rIsWall_any _ _).mono ?_; rintro e w' ⟨rfl, rfl⟩)
  refine (rRight_any a b _).mono ?_
  rintro e w1 ⟨rfl, hb1⟩
  have z := hb1.size; (try simp at z)
  have y0 : g < w1.heap.size := by omega
  have y1 : w.heap.size < w1.heap.size := by omega
  have G : w.grownBy w1 (some g) := (by repeat' (first | (with_reducible exact gb_refl _ _) | (with_reducible assumption) | (with_reducible refine gb_set ?_ ?_ _) | (with_reducible refine gb_alloc ?_ _) | (with_reducible refine gb_drew ?_) | (with_reducible refine gb_call ?_ (by assumption)) | exact .inl rfl | exact .inr (by simp <;> omega)))
  replace k0 : w1.cell? ⟨w.heap.size, 0, none⟩ = some (.int .i64 a) := (hb1.cell (p := ⟨w.heap.size, 0, none⟩) (by simp <;> omega)).trans (by go_simp); replace k1 : w1.cell? ⟨w.heap.size, 1, none⟩ = some (.int .i64 b) := (hb1.cell (p := ⟨w.heap.size, 1, none⟩) (by simp <;> omega)).trans (by go_simp)
  replace g0 : w1.cell? ⟨g, 0, none⟩ = some (.int .i64 off) := (hb1.cell (p := ⟨g, 0, none⟩) (by simp <;> omega)).trans (by go_simp)
  replace q0 : w1.cell? ⟨g, 1, none⟩ = some (.int .i64 la) := (hb1.cell (p := ⟨g, 1, none⟩) (by simp <;> omega)).trans (by go_simp); replace q0f : w1.frozen? ⟨g, 1, none⟩ = false := (hb1.frozen (p := ⟨g, 1, none⟩) (by simp <;> omega)).trans (by go_simp); replace q1 : w1.cell? ⟨g, 2, none⟩ = some (.int .i64 lb) := (hb1.cell (p := ⟨g, 2, none⟩) (by simp <;> omega)).trans (by go_simp); replace q1f : w1.frozen? ⟨g, 2, none⟩ = false := (hb1.frozen (p := ⟨g, 2, none⟩) (by simp <;> omega)).trans (by go_simp)
  clear hb1 c0 c1 c2 f1 f2
  go_wp2_with fail
  refine wp_region_below (by kernel_rfl) (by kernel_rfl) ?_
  refine quiet_ext ?_; apply Exists.intro; refine ⟨fun w9 hC => ?_, ?_⟩
  · replace zz0 : w9.cell? ⟨w.heap.size, 0, none⟩ = some (.int .i64 a) := (hC.cell (p := ⟨w.heap.size, 0, none⟩) (by simp <;> omega)).trans (by go_simp); replace zz1 : w9.cell? ⟨w.heap.size, 1, none⟩ = some (.int .i64 b) := (hC.cell (p := ⟨w.heap.size, 1, none⟩) (by simp <;> omega)).trans (by go_simp); replace zz2 : w9.cell? ⟨g, 0, none⟩ = some (.int .i64 off) := (hC.cell (p := ⟨g, 0, none⟩) (by simp <;> omega)).trans (by go_simp); go_simp; first | done | exact rfl | exact ⟨rfl, rfl⟩
  simp only [Act.put, List.setIfInBounds_toArray, List.set_cons_succ, List.set_cons_zero]
  refine quiet_ext ?_; apply Exists.intro; refine ⟨fun w9 hC => ?_, ?_⟩
  · replace zz0 : w9.cell? ⟨w.heap.size, 0, none⟩ = some (.int .i64 a) := (hC.cell (p := ⟨w.heap.size, 0, none⟩) (by simp <;> omega)).trans (by go_simp); replace zz1 : w9.cell? ⟨w.heap.size, 1, none⟩ = some (.int .i64 b) := (hC.cell (p := ⟨w.heap.size, 1, none⟩) (by simp <;> omega)).trans (by go_simp); replace zz2 : w9.cell? ⟨g, 0, none⟩ = some (.int .i64 off) := (hC.cell (p := ⟨g, 0, none⟩) (by simp <;> omega)).trans (by go_simp); go_simp; first | done | exact rfl | exact ⟨rfl, rfl⟩
  simp only [Act.put, List.setIfInBounds_toArray, List.set_cons_succ, List.set_cons_zero]
  refine quiet_ext ?_; apply Exists.intro; refine ⟨fun w9 hC => ?_, ?_⟩
  · replace zz0 : w9.cell? ⟨w.heap.size, 0, none⟩ = some (.int .i64 a) := (hC.cell (p := ⟨w.heap.size, 0, none⟩) (by simp <;> omega)).trans (by go_simp); replace zz1 : w9.cell? ⟨w.heap.size, 1, none⟩ = some (.int .i64 b) := (hC.cell (p := ⟨w.heap.size, 1, none⟩) (by simp <;> omega)).trans (by go_simp); replace zz2 : w9.cell? ⟨g, 0, none⟩ = some (.int .i64 off) := (hC.cell (p := ⟨g, 0, none⟩) (by simp <;> omega)).trans (by go_simp); go_simp; first | done | exact rfl | exact ⟨rfl, rfl⟩
  simp only [Act.put, List.setIfInBounds_toArray, List.set_cons_succ, List.set_cons_zero]
  refine quiet_ext ?_; apply Exists.intro; refine ⟨fun w9 hC => ?_, ?_⟩
  · replace zz0 : w9.cell? ⟨w.heap.size, 0, none⟩ = some (.int .i64 a) := (hC.cell (p := ⟨w.heap.size, 0, none⟩) (by simp <;> omega)).trans (by go_simp); replace zz1 : w9.cell? ⟨w.heap.size, 1, none⟩ = some (.int .i64 b) := (hC.cell (p := ⟨w.heap.size, 1, none⟩) (by simp <;> omega)).trans (by go_simp); replace zz2 : w9.cell? ⟨g, 0, none⟩ = some (.int .i64 off) := (hC.cell (p := ⟨g, 0, none⟩) (by simp <;> omega)).trans (by go_simp); go_simp; first | done | exact rfl | exact ⟨rfl, rfl⟩
  simp only [Act.put, List.setIfInBounds_toArray, List.set_cons_succ, List.set_cons_zero]
  refine quiet_ext ?_; apply Exists.intro; refine ⟨fun w9 hC => ?_, ?_⟩
  · replace zz0 : w9.cell? ⟨w.heap.size, 0, none⟩ = some (.int .i64 a) := (hC.cell (p := ⟨w.heap.size, 0, none⟩) (by simp <;> omega)).trans (by go_simp); replace zz1 : w9.cell? ⟨w.heap.size, 1, none⟩ = some (.int .i64 b) := (hC.cell (p := ⟨w.heap.size, 1, none⟩) (by simp <;> omega)).trans (by go_simp); replace zz2 : w9.cell? ⟨g, 0, none⟩ = some (.int .i64 off) := (hC.cell (p := ⟨g, 0, none⟩) (by simp <;> omega)).trans (by go_simp); go_simp; first | done | exact rfl | exact ⟨rfl, rfl⟩
  simp only [Act.put, List.setIfInBounds_toArray, List.set_cons_succ, List.set_cons_zero]
  refine quiet_ext ?_; apply Exists.intro; refine ⟨fun w9 hC => ?_, ?_⟩
  · replace zz0 : w9.cell? ⟨w.heap.size, 0, none⟩ = some (.int .i64 a) := (hC.cell (p := ⟨w.heap.size, 0, none⟩) (by simp <;> omega)).trans (by go_simp); replace zz1 : w9.cell? ⟨w.heap.size, 1, none⟩ = some (.int .i64 b) := (hC.cell (p := ⟨w.heap.size, 1, none⟩) (by simp <;> omega)).trans (by go_simp); replace zz2 : w9.cell? ⟨g, 0, none⟩ = some (.int .i64 off) := (hC.cell (p := ⟨g, 0, none⟩) (by simp <;> omega)).trans (by go_simp); go_simp; first | done | exact rfl | exact ⟨rfl, rfl⟩
  simp only [Act.put, List.setIfInBounds_toArray, List.set_cons_succ, List.set_cons_zero]
  refine quiet_ext ?_; apply Exists.intro; refine ⟨fun w9 hC => ?_, ?_⟩
  · replace zz0 : w9.cell? ⟨w.heap.size, 0, none⟩ = some (.int .i64 a) := (hC.cell (p := ⟨w.heap.size, 0, none⟩) (by simp <;> omega)).trans (by go_simp); replace zz1 : w9.cell? ⟨w.heap.size, 1, none⟩ = some (.int .i64 b) := (hC.cell (p := ⟨w.heap.size, 1, none⟩) (by simp <;> omega)).trans (by go_simp); replace zz2 : w9.cell? ⟨g, 0, none⟩ = some (.int .i64 off) := (hC.cell (p := ⟨g, 0, none⟩) (by simp <;> omega)).trans (by go_simp); go_simp; first | done | exact rfl | exact ⟨rfl, rfl⟩
  simp only [Act.put, List.setIfInBounds_toArray, List.set_cons_succ, List.set_cons_zero]
  refine quiet_ext ?_; apply Exists.intro; refine ⟨fun w9 hC => ?_, ?_⟩
  · replace zz0 : w9.cell? ⟨w.heap.size, 0, none⟩ = some (.int .i64 a) := (hC.cell (p := ⟨w.heap.size, 0, none⟩) (by simp <;> omega)).trans (by go_simp); replace zz1 : w9.cell? ⟨w.heap.size, 1, none⟩ = some (.int .i64 b) := (hC.cell (p := ⟨w.heap.size, 1, none⟩) (by simp <;> omega)).trans (by go_simp); replace zz2 : w9.cell? ⟨g, 0, none⟩ = some (.int .i64 off) := (hC.cell (p := ⟨g, 0, none⟩) (by simp <;> omega)).trans (by go_simp); go_simp; first | done | exact rfl | exact ⟨rfl, rfl⟩
  simp only [Act.put, List.setIfInBounds_toArray, List.set_cons_succ, List.set_cons_zero]
  refine quiet_ext ?_; apply Exists.intro; refine ⟨fun w9 hC => ?_, ?_⟩
  · replace zz0 : w9.cell? ⟨w.heap.size, 0, none⟩ = some (.int .i64 a) := (hC.cell (p := ⟨w.heap.size, 0, none⟩) (by simp <;> omega)).trans (by go_simp); replace zz1 : w9.cell? ⟨w.heap.size, 1, none⟩ = some (.int .i64 b) := (hC.cell (p := ⟨w.heap.size, 1, none⟩) (by simp <;> omega)).trans (by go_simp); replace zz2 : w9.cell? ⟨g, 0, none⟩ = some (.int .i64 off) := (hC.cell (p := ⟨g, 0, none⟩) (by simp <;> omega)).trans (by go_simp); go_simp; first | done | exact rfl | exact ⟨rfl, rfl⟩
  simp only [Act.put, List.setIfInBounds_toArray, List.set_cons_succ, List.set_cons_zero]
  refine quiet_ext ?_; apply Exists.intro; refine ⟨fun w9 hC => ?_, ?_⟩
  · replace zz0 : w9.cell? ⟨w.heap.size, 0, none⟩ = some (.int .i64 a) := (hC.cell (p := ⟨w.heap.size, 0, none⟩) (by simp <;> omega)).trans (by go_simp); replace zz1 : w9.cell? ⟨w.heap.size, 1, none⟩ = some (.int .i64 b) := (hC.cell (p := ⟨w.heap.size, 1, none⟩) (by simp <;> omega)).trans (by go_simp); replace zz2 : w9.cell? ⟨g, 0, none⟩ = some (.int .i64 off) := (hC.cell (p := ⟨g, 0, none⟩) (by simp <;> omega)).trans (by go_simp); go_simp; first | done | exact rfl | exact ⟨rfl, rfl⟩
  simp only [Act.put, List.setIfInBounds_toArray, List.set_cons_succ, List.set_cons_zero]
  refine quiet_ext ?_; apply Exists.intro; refine ⟨fun w9 hC => ?_, ?_⟩
  · replace zz0 : w9.cell? ⟨w.heap.size, 0, none⟩ = some (.int .i64 a) := (hC.cell (p := ⟨w.heap.size, 0, none⟩) (by simp <;> omega)).trans (by go_simp); replace zz1 : w9.cell? ⟨w.heap.size, 1, none⟩ = some (.int .i64 b) := (hC.cell (p := ⟨w.heap.size, 1, none⟩) (by simp <;> omega)).trans (by go_simp); replace zz2 : w9.cell? ⟨g, 0, none⟩ = some (.int .i64 off) := (hC.cell (p := ⟨g, 0, none⟩) (by simp <;> omega)).trans (by go_simp); go_simp; first | done | exact rfl | exact ⟨rfl, rfl⟩
  simp only [Act.put, List.setIfInBounds_toArray, List.set_cons_succ, List.set_cons_zero]
  refine quiet_ext ?_; apply Exists.intro; refine ⟨fun w9 hC => ?_, ?_⟩
  · replace zz0 : w9.cell? ⟨w.heap.size, 0, none⟩ = some (.int .i64 a) := (hC.cell (p := ⟨w.heap.size, 0, none⟩) (by simp <;> omega)).trans (by go_simp); replace zz1 : w9.cell? ⟨w.heap.size, 1, none⟩ = some (.int .i64 b) := (hC.cell (p := ⟨w.heap.size, 1, none⟩) (by simp <;> omega)).trans (by go_simp); replace zz2 : w9.cell? ⟨g, 0, none⟩ = some (.int .i64 off) := (hC.cell (p := ⟨g, 0, none⟩) (by simp <;> omega)).trans (by go_simp); go_simp; first | done | exact rfl | exact ⟨rfl, rfl⟩
  simp only [Act.put, List.setIfInBounds_toArray, List.set_cons_succ, List.set_cons_zero]
  refine quiet_ext ?_; apply Exists.intro; refine ⟨fun w9 hC => ?_, ?_⟩
  · replace zz0 : w9.cell? ⟨w.heap.size, 0, none⟩ = some (.int .i64 a) := (hC.cell (p := ⟨w.heap.size, 0, none⟩) (by simp <;> omega)).trans (by go_simp); replace zz1 : w9.cell? ⟨w.heap.size, 1, none⟩ = some (.int .i64 b) := (hC.cell (p := ⟨w.heap.size, 1, none⟩) (by simp <;> omega)).trans (by go_simp); replace zz2 : w9.cell? ⟨g, 0, none⟩ = some (.int .i64 off) := (hC.cell (p := ⟨g, 0, none⟩) (by simp <;> omega)).trans (by go_simp); go_simp; first | done | exact rfl | exact ⟨rfl, rfl⟩
  simp only [Act.put, List.setIfInBounds_toArray, List.set_cons_succ, List.set_cons_zero]
  refine quiet_ext ?_; apply Exists.intro; refine ⟨fun w9 hC => ?_, ?_⟩
  · replace zz0 : w9.cell? ⟨w.heap.size, 0, none⟩ = some (.int .i64 a) := (hC.cell (p := ⟨w.heap.size, 0, none⟩) (by simp <;> omega)).trans (by go_simp); replace zz1 : w9.cell? ⟨w.heap.size, 1, none⟩ = some (.int .i64 b) := (hC.cell (p := ⟨w.heap.size, 1, none⟩) (by simp <;> omega)).trans (by go_simp); replace zz2 : w9.cell? ⟨g, 0, none⟩ = some (.int .i64 off) := (hC.cell (p := ⟨g, 0, none⟩) (by simp <;> omega)).trans (by go_simp); go_simp; first | done | exact rfl | exact ⟨rfl, rfl⟩
  simp only [Act.put, List.setIfInBounds_toArray, List.set_cons_succ, List.set_cons_zero]
  refine quiet_ext ?_; apply Exists.intro; refine ⟨fun w9 hC => ?_, ?_⟩
  · replace zz0 : w9.cell? ⟨w.heap.size, 0, none⟩ = some (.int .i64 a) := (hC.cell (p := ⟨w.heap.size, 0, none⟩) (by simp <;> omega)).trans (by go_simp); replace zz1 : w9.cell? ⟨w.heap.size, 1, none⟩ = some (.int .i64 b) := (hC.cell (p := ⟨w.heap.size, 1, none⟩) (by simp <;> omega)).trans (by go_simp); replace zz2 : w9.cell? ⟨g, 0, none⟩ = some (.int .i64 off) := (hC.cell (p := ⟨g, 0, none⟩) (by simp <;> omega)).trans (by go_simp); go_simp; first | done | exact rfl | exact ⟨rfl, rfl⟩
  simp only [Act.put, List.setIfInBounds_toArray, List.set_cons_succ, List.set_cons_zero]
  refine wpQuiet_nil ?_
  intro w2 hC
  have hb2 := hC.below
  have z2 := hb2.size; (try simp at z2)
  replace y0 : g < w2.heap.size := by omega
  replace y1 : w.heap.size < w2.heap.size := by omega
  replace G : w.grownBy w2 (some g) := gb_call G hb2
  replace k0 : w2.cell? ⟨w.heap.size, 0, none⟩ = some (.int .i64 a) := (hb2.cell (p := ⟨w.heap.size, 0, none⟩) (by simp <;> omega)).trans (by go_simp); replace k1 : w2.cell? ⟨w.heap.size, 1, none⟩ = some (.int .i64 b) := (hb2.cell (p := ⟨w.heap.size, 1, none⟩) (by simp <;> omega)).trans (by go_simp)
  replace g0 : w2.cell? ⟨g, 0, none⟩ = some (.int .i64 off) := (hb2.cell (p := ⟨g, 0, none⟩) (by simp <;> omega)).trans (by go_simp)
  replace q0 : w2.cell? ⟨g, 1, none⟩ = some (.int .i64 la) := (hb2.cell (p := ⟨g, 1, none⟩) (by simp <;> omega)).trans (by go_simp); replace q0f : w2.frozen? ⟨g, 1, none⟩ = false := (hb2.frozen (p := ⟨g, 1, none⟩) (by simp <;> omega)).trans (by go_simp); replace q1 : w2.cell? ⟨g, 2, none⟩ = some (.int .i64 lb) := (hb2.cell (p := ⟨g, 2, none⟩) (by simp <;> omega)).trans (by go_simp); replace q1f : w2.frozen? ⟨g, 2, none⟩ = false := (hb2.frozen (p := ⟨g, 2, none⟩) (by simp <;> omega)).trans (by go_simp)
  clear hC hb2
  go_wp2_with fail
  refine wp_region_below (by kernel_rfl) (by kernel_rfl) ?_
  refine quiet_ext ?_; apply Exists.intro; refine ⟨fun w9 hC => ?_, ?_⟩
  · replace zz0 : w9.cell? ⟨w.heap.size, 0, none⟩ = some (.int .i64 a) := (hC.cell (p := ⟨w.heap.size, 0, none⟩) (by simp <;> omega)).trans (by go_simp); replace zz1 : w9.cell? ⟨w.heap.size, 1, none⟩ = some (.int .i64 b) := (hC.cell (p := ⟨w.heap.size, 1, none⟩) (by simp <;> omega)).trans (by go_simp); replace zz2 : w9.cell? ⟨g, 0, none⟩ = some (.int .i64 off) := (hC.cell (p := ⟨g, 0, none⟩) (by simp <;> omega)).trans (by go_simp); replace zz3 : w9.cell? ⟨g, 1, none⟩ = some (.int .i64 la) := (hC.cell (p := ⟨g, 1, none⟩) (by simp <;> omega)).trans (by go_simp); replace zz4 : w9.cell? ⟨g, 2, none⟩ = some (.int .i64 lb) := (hC.cell (p := ⟨g, 2, none⟩) (by simp <;> omega)).trans (by go_simp); go_simp; first | done | exact rfl | exact ⟨rfl, rfl⟩
  simp only [Act.put, List.setIfInBounds_toArray, List.set_cons_succ, List.set_cons_zero]
  refine quiet_ext ?_; apply Exists.intro; refine ⟨fun w9 hC => ?_, ?_⟩
  · replace zz0 : w9.cell? ⟨w.heap.size, 0, none⟩ = some (.int .i64 a) := (hC.cell (p := ⟨w.heap.size, 0, none⟩) (by simp <;> omega)).trans (by go_simp); replace zz1 : w9.cell? ⟨w.heap.size, 1, none⟩ = some (.int .i64 b) := (hC.cell (p := ⟨w.heap.size, 1, none⟩) (by simp <;> omega)).trans (by go_simp); replace zz2 : w9.cell? ⟨g, 0, none⟩ = some (.int .i64 off) := (hC.cell (p := ⟨g, 0, none⟩) (by simp <;> omega)).trans (by go_simp); replace zz3 : w9.cell? ⟨g, 1, none⟩ = some (.int .i64 la) := (hC.cell (p := ⟨g, 1, none⟩) (by simp <;> omega)).trans (by go_simp); replace zz4 : w9.cell? ⟨g, 2, none⟩ = some (.int .i64 lb) := (hC.cell (p := ⟨g, 2, none⟩) (by simp <;> omega)).trans (by go_simp); go_simp; first | done | exact rfl | exact ⟨rfl, rfl⟩
  simp only [Act.put, List.setIfInBounds_toArray, List.set_cons_succ, List.set_cons_zero]
  refine quiet_ext ?_; apply Exists.intro; refine ⟨fun w9 hC => ?_, ?_⟩
  · replace zz0 : w9.cell? ⟨w.heap.size, 0, none⟩ = some (.int .i64 a) := (hC.cell (p := ⟨w.heap.size, 0, none⟩) (by simp <;> omega)).trans (by go_simp); replace zz1 : w9.cell? ⟨w.heap.size, 1, none⟩ = some (.int .i64 b) := (hC.cell (p := ⟨w.heap.size, 1, none⟩) (by simp <;> omega)).trans (by go_simp); replace zz2 : w9.cell? ⟨g, 0, none⟩ = some (.int .i64 off) := (hC.cell (p := ⟨g, 0, none⟩) (by simp <;> omega)).trans (by go_simp); replace zz3 : w9.cell? ⟨g, 1, none⟩ = some (.int .i64 la) := (hC.cell (p := ⟨g, 1, none⟩) (by simp <;> omega)).trans (by go_simp); replace zz4 : w9.cell? ⟨g, 2, none⟩ = some (.int .i64 lb) := (hC.cell (p := ⟨g, 2, none⟩) (by simp <;> omega)).trans (by go_simp); go_simp; first | done | exact rfl | exact ⟨rfl, rfl⟩
  simp only [Act.put, List.setIfInBounds_toArray, List.set_cons_succ, List.set_cons_zero]
  refine quiet_ext ?_; apply Exists.intro; refine ⟨fun w9 hC => ?_, ?_⟩
  · replace zz0 : w9.cell? ⟨w.heap.size, 0, none⟩ = some (.int .i64 a) := (hC.cell (p := ⟨w.heap.size, 0, none⟩) (by simp <;> omega)).trans (by go_simp); replace zz1 : w9.cell? ⟨w.heap.size, 1, none⟩ = some (.int .i64 b) := (hC.cell (p := ⟨w.heap.size, 1, none⟩) (by simp <;> omega)).trans (by go_simp); replace zz2 : w9.cell? ⟨g, 0, none⟩ = some (.int .i64 off) := (hC.cell (p := ⟨g, 0, none⟩) (by simp <;> omega)).trans (by go_simp); replace zz3 : w9.cell? ⟨g, 1, none⟩ = some (.int .i64 la) := (hC.cell (p := ⟨g, 1, none⟩) (by simp <;> omega)).trans (by go_simp); replace zz4 : w9.cell? ⟨g, 2, none⟩ = some (.int .i64 lb) := (hC.cell (p := ⟨g, 2, none⟩) (by simp <;> omega)).trans (by go_simp); go_simp; first | done | exact rfl | exact ⟨rfl, rfl⟩
  simp only [Act.put, List.setIfInBounds_toArray, List.set_cons_succ, List.set_cons_zero]
  refine quiet_ext ?_; apply Exists.intro; refine ⟨fun w9 hC => ?_, ?_⟩
  · replace zz0 : w9.cell? ⟨w.heap.size, 0, none⟩ = some (.int .i64 a) := (hC.cell (p := ⟨w.heap.size, 0, none⟩) (by simp <;> omega)).trans (by go_simp); replace zz1 : w9.cell? ⟨w.heap.size, 1, none⟩ = some (.int .i64 b) := (hC.cell (p := ⟨w.heap.size, 1, none⟩) (by simp <;> omega)).trans (by go_simp); replace zz2 : w9.cell? ⟨g, 0, none⟩ = some (.int .i64 off) := (hC.cell (p := ⟨g, 0, none⟩) (by simp <;> omega)).trans (by go_simp); replace zz3 : w9.cell? ⟨g, 1, none⟩ = some (.int .i64 la) := (hC.cell (p := ⟨g, 1, none⟩) (by simp <;> omega)).trans (by go_simp); replace zz4 : w9.cell? ⟨g, 2, none⟩ = some (.int .i64 lb) := (hC.cell (p := ⟨g, 2, none⟩) (by simp <;> omega)).trans (by go_simp); go_simp; first | done | exact rfl | exact ⟨rfl, rfl⟩
  simp only [Act.put, List.setIfInBounds_toArray, List.set_cons_succ, List.set_cons_zero]
  refine quiet_ext ?_; apply Exists.intro; refine ⟨fun w9 hC => ?_, ?_⟩
  · replace zz0 : w9.cell? ⟨w.heap.size, 0, none⟩ = some (.int .i64 a) := (hC.cell (p := ⟨w.heap.size, 0, none⟩) (by simp <;> omega)).trans (by go_simp); replace zz1 : w9.cell? ⟨w.heap.size, 1, none⟩ = some (.int .i64 b) := (hC.cell (p := ⟨w.heap.size, 1, none⟩) (by simp <;> omega)).trans (by go_simp); replace zz2 : w9.cell? ⟨g, 0, none⟩ = some (.int .i64 off) := (hC.cell (p := ⟨g, 0, none⟩) (by simp <;> omega)).trans (by go_simp); replace zz3 : w9.cell? ⟨g, 1, none⟩ = some (.int .i64 la) := (hC.cell (p := ⟨g, 1, none⟩) (by simp <;> omega)).trans (by go_simp); replace zz4 : w9.cell? ⟨g, 2, none⟩ = some (.int .i64 lb) := (hC.cell (p := ⟨g, 2, none⟩) (by simp <;> omega)).trans (by go_simp); go_simp; exact (rCompare_any a b la lb _).mono fun _ _ h => ⟨h.1, ext_call hC h.2⟩
  simp only [Act.put, List.setIfInBounds_toArray, List.set_cons_succ, List.set_cons_zero]
  refine quiet_ext ?_; apply Exists.intro; refine ⟨fun w9 hC => ?_, ?_⟩
  · replace zz0 : w9.cell? ⟨w.heap.size, 0, none⟩ = some (.int .i64 a) := (hC.cell (p := ⟨w.heap.size, 0, none⟩) (by simp <;> omega)).trans (by go_simp); replace zz1 : w9.cell? ⟨w.heap.size, 1, none⟩ = some (.int .i64 b) := (hC.cell (p := ⟨w.heap.size, 1, none⟩) (by simp <;> omega)).trans (by go_simp); replace zz2 : w9.cell? ⟨g, 0, none⟩ = some (.int .i64 off) := (hC.cell (p := ⟨g, 0, none⟩) (by simp <;> omega)).trans (by go_simp); replace zz3 : w9.cell? ⟨g, 1, none⟩ = some (.int .i64 la) := (hC.cell (p := ⟨g, 1, none⟩) (by simp <;> omega)).trans (by go_simp); replace zz4 : w9.cell? ⟨g, 2, none⟩ = some (.int .i64 lb) := (hC.cell (p := ⟨g, 2, none⟩) (by simp <;> omega)).trans (by go_simp); go_simp; first | done | exact rfl | exact ⟨rfl, rfl⟩
  simp only [Act.put, List.setIfInBounds_toArray, List.set_cons_succ, List.set_cons_zero]
  refine wpQuiet_nil ?_
  intro w3 hC
  have hb3 := hC.below
  have z3 := hb3.size; (try simp at z3)
  replace y0 : g < w3.heap.size := by omega
  replace y1 : w.heap.size < w3.heap.size := by omega
  replace G : w.grownBy w3 (some g) := gb_call G hb3
  replace k0 : w3.cell? ⟨w.heap.size, 0, none⟩ = some (.int .i64 a) := (hb3.cell (p := ⟨w.heap.size, 0, none⟩) (by simp <;> omega)).trans (by go_simp); replace k1 : w3.cell? ⟨w.heap.size, 1, none⟩ = some (.int .i64 b) := (hb3.cell (p := ⟨w.heap.size, 1, none⟩) (by simp <;> omega)).trans (by go_simp)
  replace g0 : w3.cell? ⟨g, 0, none⟩ = some (.int .i64 off) := (hb3.cell (p := ⟨g, 0, none⟩) (by simp <;> omega)).trans (by go_simp)
  replace q0 : w3.cell? ⟨g, 1, none⟩ = some (.int .i64 la) := (hb3.cell (p := ⟨g, 1, none⟩) (by simp <;> omega)).trans (by go_simp); replace q0f : w3.frozen? ⟨g, 1, none⟩ = false := (hb3.frozen (p := ⟨g, 1, none⟩) (by simp <;> omega)).trans (by go_simp); replace q1 : w3.cell? ⟨g, 2, none⟩ = some (.int .i64 lb) := (hb3.cell (p := ⟨g, 2, none⟩) (by simp <;> omega)).trans (by go_simp); replace q1f : w3.frozen? ⟨g, 2, none⟩ = false := (hb3.frozen (p := ⟨g, 2, none⟩) (by simp <;> omega)).trans (by go_simp)
  clear hC hb3
  go_wp2_with fail
  go_ret
  exact ⟨rfl, ⟨by first | omega | (simp <;> omega), by go_simp, by go_simp, by go_simp, by go_simp, by go_simp⟩, (by repeat' (first | (with_reducible exact gb_refl _ _) | (with_reducible assumption) | (with_reducible refine gb_set ?_ ?_ _) | (with_reducible refine gb_alloc ?_ _) | (with_reducible refine gb_drew ?_) | (with_reducible refine gb_call ?_ (by assumption)) | exact .inl rfl | exact .inr (by simp <;> omega)))⟩

theorem rlearn_any (g : Nat) (off la lb a b t : Int) (w : World) (h : Clk w g off la lb) (ho : isWall off = true) :
    Calls Try.prog 28 #[.pointer (some ⟨g, 0, none⟩), .agg #[.int .i64 a, .int .i64 b], .int .i64 t] w (LearnPost g off la lb a b t w) := by
  cases ht : isWall t
  · exact rlearn0 g off la lb a b t w h ht
  · cases hr : right a b
    · exact rlearn1 g off la lb a b t w h ht hr
    · by_cases hf : off < a - t
      · exact rlearn2 g off la lb a b t w h ht hr ho hf
      · by_cases hlt : t < a
        · by_cases hc : 0 < cmpS a b la lb
          · exact rlearn3a g off la lb a b t w h ht hr ho (by omega) hlt hc
          · exact rlearn4a g off la lb a b t w h ht hr ho (by omega) hlt (by omega)
        · by_cases hc : 0 < cmpS a b la lb
          · exact rlearn3b g off la lb a b t w h ht hr ho (by omega) (by omega) hc
          · exact rlearn4b g off la lb a b t w h ht hr ho (by omega) (by omega) (by omega)

end Hlc
end Go.Proofs.Ytogooghigeemaaa
