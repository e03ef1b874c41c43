/- the document's clock: Now. -/
import Derived.Test.YtogooghigeemaaaHlcNow
namespace Go.Proofs.Ytogooghigeemaaa
open Go.RowKit
namespace Hlc
attribute [local irreducible] wpQuiet
set_option maxHeartbeats 1000000 in
theorem rnow0 (g : Nat) (off la lb t : Int) (w : World) (h : Clk w g off la lb) (ht : isWall t = false) :
    Calls Try.prog 27 #[.pointer (some ⟨g, 0, none⟩), .int .i64 t] w (NowPost g off la lb t w) := by
  have e1 : nowR la lb t = (0, 0, 1) := by unfold nowR; rw [if_pos ht]
  have e2 : nowL la lb t = (la, lb) := by unfold nowL; rw [e1]; rfl
  unfold NowPost
  rw [e1, e2]
  clear e1 e2
  have ht1 : (!isWall t) = true := by simp [ht]
  clear ht
  obtain ⟨lt, c0, c1, c2, f1, f2⟩ := h
  go_enter Try.func27, Try.ntmps27
  go_wp2_with (go_at_call 23; refine (rIsWall_any _ _).mono ?_; rintro e w' ⟨rfl, rfl⟩)
  exact bodyPost_ret (v := vse (0, 0, 1)) (by simp [results, Try.results27, go_sem, c0, vse]) rfl ⟨rfl, ⟨by simp <;> omega, by go_simp, by go_simp, by go_simp, by go_simp, by go_simp⟩, (by repeat' (first | (with_reducible exact gb_refl _ _) | (with_reducible assumption) | (with_reducible refine gb_set ?_ ?_ _) | (with_reducible refine gb_alloc ?_ _) | (with_reducible refine gb_drew ?_) | (with_reducible refine gb_call ?_ (by assumption)) | exact .inl rfl | exact .inr (by simp <;> omega)))⟩

set_option maxHeartbeats 1000000 in
theorem rnow1 (g : Nat) (off la lb t : Int) (w : World) (h : Clk w g off la lb) (ht : isWall t = true) (hc : 0 < cmpS t 0 la lb) :
    Calls Try.prog 27 #[.pointer (some ⟨g, 0, none⟩), .int .i64 t] w (NowPost g off la lb t w) := by
  have e1 : nowR la lb t = (t, 0, 0) := by unfold nowR; rw [if_neg (by simp [ht]), if_pos hc]
  have e2 : nowL la lb t = (t, 0) := by unfold nowL; rw [e1]; rfl
  unfold NowPost
  rw [e1, e2]
  clear e1 e2
  have hq : decide (cmpS t 0 la lb ≤ 0) = false := by simp; omega
  have ht1 : (!isWall t) = false := by simp [ht]
  clear hc ht
  obtain ⟨lt, c0, c1, c2, f1, f2⟩ := h
  go_enter Try.func27, Try.ntmps27
  go_wp2_with (go_at_call 23; refine (rIsWall_any _ _).mono ?_; rintro e w' ⟨rfl, rfl⟩)
  refine wp_region_below (by kernel_rfl) (by kernel_rfl) ?_
  refine quiet_ext ?_; apply Exists.intro; refine ⟨fun w9 hC => ?_, ?_⟩
  · replace zz0 : w9.cell? ⟨w.heap.size+1, 0, none⟩ = some (.int .i64 t) := (hC.cell (p := ⟨w.heap.size+1, 0, none⟩) (by simp <;> omega)).trans (by go_simp); replace zz1 : w9.cell? ⟨w.heap.size+1, 1, none⟩ = some (.int .i64 0) := (hC.cell (p := ⟨w.heap.size+1, 1, none⟩) (by simp <;> omega)).trans (by go_simp); replace zz2 : w9.cell? ⟨g, 0, none⟩ = some (.int .i64 off) := (hC.cell (p := ⟨g, 0, none⟩) (by simp <;> omega)).trans (by go_simp); replace zz3 : w9.cell? ⟨g, 1, none⟩ = some (.int .i64 la) := (hC.cell (p := ⟨g, 1, none⟩) (by simp <;> omega)).trans (by go_simp); replace zz4 : w9.cell? ⟨g, 2, none⟩ = some (.int .i64 lb) := (hC.cell (p := ⟨g, 2, none⟩) (by simp <;> omega)).trans (by go_simp); go_simp; first | done | exact rfl | exact ⟨rfl, rfl⟩
  simp only [Act.put, List.setIfInBounds_toArray, List.set_cons_succ, List.set_cons_zero]
  refine quiet_ext ?_; apply Exists.intro; refine ⟨fun w9 hC => ?_, ?_⟩
  · replace zz0 : w9.cell? ⟨w.heap.size+1, 0, none⟩ = some (.int .i64 t) := (hC.cell (p := ⟨w.heap.size+1, 0, none⟩) (by simp <;> omega)).trans (by go_simp); replace zz1 : w9.cell? ⟨w.heap.size+1, 1, none⟩ = some (.int .i64 0) := (hC.cell (p := ⟨w.heap.size+1, 1, none⟩) (by simp <;> omega)).trans (by go_simp); replace zz2 : w9.cell? ⟨g, 0, none⟩ = some (.int .i64 off) := (hC.cell (p := ⟨g, 0, none⟩) (by simp <;> omega)).trans (by go_simp); replace zz3 : w9.cell? ⟨g, 1, none⟩ = some (.int .i64 la) := (hC.cell (p := ⟨g, 1, none⟩) (by simp <;> omega)).trans (by go_simp); replace zz4 : w9.cell? ⟨g, 2, none⟩ = some (.int .i64 lb) := (hC.cell (p := ⟨g, 2, none⟩) (by simp <;> omega)).trans (by go_simp); go_simp; first | done | exact rfl | exact ⟨rfl, rfl⟩
  simp only [Act.put, List.setIfInBounds_toArray, List.set_cons_succ, List.set_cons_zero]
  refine quiet_ext ?_; apply Exists.intro; refine ⟨fun w9 hC => ?_, ?_⟩
  · replace zz0 : w9.cell? ⟨w.heap.size+1, 0, none⟩ = some (.int .i64 t) := (hC.cell (p := ⟨w.heap.size+1, 0, none⟩) (by simp <;> omega)).trans (by go_simp); replace zz1 : w9.cell? ⟨w.heap.size+1, 1, none⟩ = some (.int .i64 0) := (hC.cell (p := ⟨w.heap.size+1, 1, none⟩) (by simp <;> omega)).trans (by go_simp); replace zz2 : w9.cell? ⟨g, 0, none⟩ = some (.int .i64 off) := (hC.cell (p := ⟨g, 0, none⟩) (by simp <;> omega)).trans (by go_simp); replace zz3 : w9.cell? ⟨g, 1, none⟩ = some (.int .i64 la) := (hC.cell (p := ⟨g, 1, none⟩) (by simp <;> omega)).trans (by go_simp); replace zz4 : w9.cell? ⟨g, 2, none⟩ = some (.int .i64 lb) := (hC.cell (p := ⟨g, 2, none⟩) (by simp <;> omega)).trans (by go_simp); go_simp; first | done | exact rfl | exact ⟨rfl, rfl⟩
  simp only [Act.put, List.setIfInBounds_toArray, List.set_cons_succ, List.set_cons_zero]
  refine quiet_ext ?_; apply Exists.intro; refine ⟨fun w9 hC => ?_, ?_⟩
  · replace zz0 : w9.cell? ⟨w.heap.size+1, 0, none⟩ = some (.int .i64 t) := (hC.cell (p := ⟨w.heap.size+1, 0, none⟩) (by simp <;> omega)).trans (by go_simp); replace zz1 : w9.cell? ⟨w.heap.size+1, 1, none⟩ = some (.int .i64 0) := (hC.cell (p := ⟨w.heap.size+1, 1, none⟩) (by simp <;> omega)).trans (by go_simp); replace zz2 : w9.cell? ⟨g, 0, none⟩ = some (.int .i64 off) := (hC.cell (p := ⟨g, 0, none⟩) (by simp <;> omega)).trans (by go_simp); replace zz3 : w9.cell? ⟨g, 1, none⟩ = some (.int .i64 la) := (hC.cell (p := ⟨g, 1, none⟩) (by simp <;> omega)).trans (by go_simp); replace zz4 : w9.cell? ⟨g, 2, none⟩ = some (.int .i64 lb) := (hC.cell (p := ⟨g, 2, none⟩) (by simp <;> omega)).trans (by go_simp); go_simp; first | done | exact rfl | exact ⟨rfl, rfl⟩
  simp only [Act.put, List.setIfInBounds_toArray, List.set_cons_succ, List.set_cons_zero]
  refine quiet_ext ?_; apply Exists.intro; refine ⟨fun w9 hC => ?_, ?_⟩
  · replace zz0 : w9.cell? ⟨w.heap.size+1, 0, none⟩ = some (.int .i64 t) := (hC.cell (p := ⟨w.heap.size+1, 0, none⟩) (by simp <;> omega)).trans (by go_simp); replace zz1 : w9.cell? ⟨w.heap.size+1, 1, none⟩ = some (.int .i64 0) := (hC.cell (p := ⟨w.heap.size+1, 1, none⟩) (by simp <;> omega)).trans (by go_simp); replace zz2 : w9.cell? ⟨g, 0, none⟩ = some (.int .i64 off) := (hC.cell (p := ⟨g, 0, none⟩) (by simp <;> omega)).trans (by go_simp); replace zz3 : w9.cell? ⟨g, 1, none⟩ = some (.int .i64 la) := (hC.cell (p := ⟨g, 1, none⟩) (by simp <;> omega)).trans (by go_simp); replace zz4 : w9.cell? ⟨g, 2, none⟩ = some (.int .i64 lb) := (hC.cell (p := ⟨g, 2, none⟩) (by simp <;> omega)).trans (by go_simp); go_simp; first | done | exact rfl | exact ⟨rfl, rfl⟩
  simp only [Act.put, List.setIfInBounds_toArray, List.set_cons_succ, List.set_cons_zero]
  refine quiet_ext ?_; apply Exists.intro; refine ⟨fun w9 hC => ?_, ?_⟩
  · replace zz0 : w9.cell? ⟨w.heap.size+1, 0, none⟩ = some (.int .i64 t) := (hC.cell (p := ⟨w.heap.size+1, 0, none⟩) (by simp <;> omega)).trans (by go_simp); replace zz1 : w9.cell? ⟨w.heap.size+1, 1, none⟩ = some (.int .i64 0) := (hC.cell (p := ⟨w.heap.size+1, 1, none⟩) (by simp <;> omega)).trans (by go_simp); replace zz2 : w9.cell? ⟨g, 0, none⟩ = some (.int .i64 off) := (hC.cell (p := ⟨g, 0, none⟩) (by simp <;> omega)).trans (by go_simp); replace zz3 : w9.cell? ⟨g, 1, none⟩ = some (.int .i64 la) := (hC.cell (p := ⟨g, 1, none⟩) (by simp <;> omega)).trans (by go_simp); replace zz4 : w9.cell? ⟨g, 2, none⟩ = some (.int .i64 lb) := (hC.cell (p := ⟨g, 2, none⟩) (by simp <;> omega)).trans (by go_simp); go_simp; exact (rCompare_any t 0 la lb _).mono fun _ _ h => ⟨h.1, ext_call hC h.2⟩
  simp only [Act.put, List.setIfInBounds_toArray, List.set_cons_succ, List.set_cons_zero]
  refine quiet_ext ?_; apply Exists.intro; refine ⟨fun w9 hC => ?_, ?_⟩
  · replace zz0 : w9.cell? ⟨w.heap.size+1, 0, none⟩ = some (.int .i64 t) := (hC.cell (p := ⟨w.heap.size+1, 0, none⟩) (by simp <;> omega)).trans (by go_simp); replace zz1 : w9.cell? ⟨w.heap.size+1, 1, none⟩ = some (.int .i64 0) := (hC.cell (p := ⟨w.heap.size+1, 1, none⟩) (by simp <;> omega)).trans (by go_simp); replace zz2 : w9.cell? ⟨g, 0, none⟩ = some (.int .i64 off) := (hC.cell (p := ⟨g, 0, none⟩) (by simp <;> omega)).trans (by go_simp); replace zz3 : w9.cell? ⟨g, 1, none⟩ = some (.int .i64 la) := (hC.cell (p := ⟨g, 1, none⟩) (by simp <;> omega)).trans (by go_simp); replace zz4 : w9.cell? ⟨g, 2, none⟩ = some (.int .i64 lb) := (hC.cell (p := ⟨g, 2, none⟩) (by simp <;> omega)).trans (by go_simp); go_simp; first | done | exact rfl | exact ⟨rfl, rfl⟩
  simp only [Act.put, List.setIfInBounds_toArray, List.set_cons_succ, List.set_cons_zero]
  refine wpQuiet_nil ?_
  intro w2 hC
  replace k0 : w2.cell? ⟨w.heap.size, 0, none⟩ = some (.int .i64 0) := (hC.cell (p := ⟨w.heap.size, 0, none⟩) (by simp <;> omega)).trans (by go_simp); replace k0f : w2.frozen? ⟨w.heap.size, 0, none⟩ = false := (hC.frozen (p := ⟨w.heap.size, 0, none⟩) (by simp <;> omega)).trans (by go_simp); replace k1 : w2.cell? ⟨w.heap.size, 1, none⟩ = some (.int .i64 0) := (hC.cell (p := ⟨w.heap.size, 1, none⟩) (by simp <;> omega)).trans (by go_simp); replace k1f : w2.frozen? ⟨w.heap.size, 1, none⟩ = false := (hC.frozen (p := ⟨w.heap.size, 1, none⟩) (by simp <;> omega)).trans (by go_simp); replace k2 : w2.cell? ⟨w.heap.size+1, 0, none⟩ = some (.int .i64 t) := (hC.cell (p := ⟨w.heap.size+1, 0, none⟩) (by simp <;> omega)).trans (by go_simp); replace k2f : w2.frozen? ⟨w.heap.size+1, 0, none⟩ = false := (hC.frozen (p := ⟨w.heap.size+1, 0, none⟩) (by simp <;> omega)).trans (by go_simp); replace k3 : w2.cell? ⟨w.heap.size+1, 1, none⟩ = some (.int .i64 0) := (hC.cell (p := ⟨w.heap.size+1, 1, none⟩) (by simp <;> omega)).trans (by go_simp); replace k3f : w2.frozen? ⟨w.heap.size+1, 1, none⟩ = false := (hC.frozen (p := ⟨w.heap.size+1, 1, none⟩) (by simp <;> omega)).trans (by go_simp)
  replace g0 : w2.cell? ⟨g, 0, none⟩ = some (.int .i64 off) := (hC.cell (p := ⟨g, 0, none⟩) (by simp <;> omega)).trans (by go_simp)
  replace q0 : w2.cell? ⟨g, 1, none⟩ = some (.int .i64 la) := (hC.cell (p := ⟨g, 1, none⟩) (by simp <;> omega)).trans (by go_simp); replace q0f : w2.frozen? ⟨g, 1, none⟩ = false := (hC.frozen (p := ⟨g, 1, none⟩) (by simp <;> omega)).trans (by go_simp); replace q1 : w2.cell? ⟨g, 2, none⟩ = some (.int .i64 lb) := (hC.cell (p := ⟨g, 2, none⟩) (by simp <;> omega)).trans (by go_simp); replace q1f : w2.frozen? ⟨g, 2, none⟩ = false := (hC.frozen (p := ⟨g, 2, none⟩) (by simp <;> omega)).trans (by go_simp)
  have z := hC.below.size; (try simp at z)
  have y0 : g < w2.heap.size := by omega
  have y1 : w.heap.size < w2.heap.size := by omega
  have y2 : w.heap.size + 1 < w2.heap.size := by omega
  have hb := hC.below
  have G : w.grownBy w2 (some g) := (by repeat' (first | (with_reducible exact gb_refl _ _) | (with_reducible assumption) | (with_reducible refine gb_set ?_ ?_ _) | (with_reducible refine gb_alloc ?_ _) | (with_reducible refine gb_drew ?_) | (with_reducible refine gb_call ?_ (by assumption)) | exact .inl rfl | exact .inr (by simp <;> omega)))
  clear hC hb c0 c1 c2 f1 f2
  go_wp2_with fail
  exact bodyPost_ret (v := vse (t, 0, 0)) (by simp [results, Try.results27, go_sem, k0, k1, vse]) rfl ⟨rfl, ⟨by simp <;> omega, by go_simp, by go_simp, by go_simp, by go_simp, by go_simp⟩, (by repeat' (first | (with_reducible exact gb_refl _ _) | (with_reducible assumption) | (with_reducible refine gb_set ?_ ?_ _) | (with_reducible refine gb_alloc ?_ _) | (with_reducible refine gb_drew ?_) | (with_reducible refine gb_call ?_ (by assumption)) | exact .inl rfl | exact .inr (by simp <;> omega)))⟩

set_option maxHeartbeats 1000000 in
theorem rnow2 (g : Nat) (off la lb t : Int) (w : World) (h : Clk w g off la lb) (ht : isWall t = true) (hc : cmpS t 0 la lb ≤ 0) (hn : (next la lb).2.2 = 0) :
    Calls Try.prog 27 #[.pointer (some ⟨g, 0, none⟩), .int .i64 t] w (NowPost g off la lb t w) := by
  have e1 : nowR la lb t = ((next la lb).1, (next la lb).2.1, 0) := by unfold nowR; rw [if_neg (by simp [ht]), if_neg (by omega), if_pos hn]
  have e2 : nowL la lb t = ((next la lb).1, (next la lb).2.1) := by unfold nowL; rw [e1]; exact if_pos rfl
  unfold NowPost
  rw [e1, e2]
  clear e1 e2
  have hq : decide (cmpS t 0 la lb ≤ 0) = true := by simp; omega
  have ht1 : (!isWall t) = false := by simp [ht]
  clear hc ht
  have hn1 : ((next la lb).2.2 != 0) = false := by simp; exact hn
  clear hn
  obtain ⟨lt, c0, c1, c2, f1, f2⟩ := h
  go_enter Try.func27, Try.ntmps27
  go_wp2_with (go_at_call 23; refine (rIsWall_any _ _).mono ?_; rintro e w' ⟨rfl, rfl⟩)
  refine wp_region_below (by kernel_rfl) (by kernel_rfl) ?_
  refine quiet_ext ?_; apply Exists.intro; refine ⟨fun w9 hC => ?_, ?_⟩
  · replace zz0 : w9.cell? ⟨w.heap.size+1, 0, none⟩ = some (.int .i64 t) := (hC.cell (p := ⟨w.heap.size+1, 0, none⟩) (by simp <;> omega)).trans (by go_simp); replace zz1 : w9.cell? ⟨w.heap.size+1, 1, none⟩ = some (.int .i64 0) := (hC.cell (p := ⟨w.heap.size+1, 1, none⟩) (by simp <;> omega)).trans (by go_simp); replace zz2 : w9.cell? ⟨g, 0, none⟩ = some (.int .i64 off) := (hC.cell (p := ⟨g, 0, none⟩) (by simp <;> omega)).trans (by go_simp); replace zz3 : w9.cell? ⟨g, 1, none⟩ = some (.int .i64 la) := (hC.cell (p := ⟨g, 1, none⟩) (by simp <;> omega)).trans (by go_simp); replace zz4 : w9.cell? ⟨g, 2, none⟩ = some (.int .i64 lb) := (hC.cell (p := ⟨g, 2, none⟩) (by simp <;> omega)).trans (by go_simp); go_simp; first | done | exact rfl | exact ⟨rfl, rfl⟩
  simp only [Act.put, List.setIfInBounds_toArray, List.set_cons_succ, List.set_cons_zero]
  refine quiet_ext ?_; apply Exists.intro; refine ⟨fun w9 hC => ?_, ?_⟩
  · replace zz0 : w9.cell? ⟨w.heap.size+1, 0, none⟩ = some (.int .i64 t) := (hC.cell (p := ⟨w.heap.size+1, 0, none⟩) (by simp <;> omega)).trans (by go_simp); replace zz1 : w9.cell? ⟨w.heap.size+1, 1, none⟩ = some (.int .i64 0) := (hC.cell (p := ⟨w.heap.size+1, 1, none⟩) (by simp <;> omega)).trans (by go_simp); replace zz2 : w9.cell? ⟨g, 0, none⟩ = some (.int .i64 off) := (hC.cell (p := ⟨g, 0, none⟩) (by simp <;> omega)).trans (by go_simp); replace zz3 : w9.cell? ⟨g, 1, none⟩ = some (.int .i64 la) := (hC.cell (p := ⟨g, 1, none⟩) (by simp <;> omega)).trans (by go_simp); replace zz4 : w9.cell? ⟨g, 2, none⟩ = some (.int .i64 lb) := (hC.cell (p := ⟨g, 2, none⟩) (by simp <;> omega)).trans (by go_simp); go_simp; first | done | exact rfl | exact ⟨rfl, rfl⟩
  simp only [Act.put, List.setIfInBounds_toArray, List.set_cons_succ, List.set_cons_zero]
  refine quiet_ext ?_; apply Exists.intro; refine ⟨fun w9 hC => ?_, ?_⟩
  · replace zz0 : w9.cell? ⟨w.heap.size+1, 0, none⟩ = some (.int .i64 t) := (hC.cell (p := ⟨w.heap.size+1, 0, none⟩) (by simp <;> omega)).trans (by go_simp); replace zz1 : w9.cell? ⟨w.heap.size+1, 1, none⟩ = some (.int .i64 0) := (hC.cell (p := ⟨w.heap.size+1, 1, none⟩) (by simp <;> omega)).trans (by go_simp); replace zz2 : w9.cell? ⟨g, 0, none⟩ = some (.int .i64 off) := (hC.cell (p := ⟨g, 0, none⟩) (by simp <;> omega)).trans (by go_simp); replace zz3 : w9.cell? ⟨g, 1, none⟩ = some (.int .i64 la) := (hC.cell (p := ⟨g, 1, none⟩) (by simp <;> omega)).trans (by go_simp); replace zz4 : w9.cell? ⟨g, 2, none⟩ = some (.int .i64 lb) := (hC.cell (p := ⟨g, 2, none⟩) (by simp <;> omega)).trans (by go_simp); go_simp; first | done | exact rfl | exact ⟨rfl, rfl⟩
  simp only [Act.put, List.setIfInBounds_toArray, List.set_cons_succ, List.set_cons_zero]
  refine quiet_ext ?_; apply Exists.intro; refine ⟨fun w9 hC => ?_, ?_⟩
  · replace zz0 : w9.cell? ⟨w.heap.size+1, 0, none⟩ = some (.int .i64 t) := (hC.cell (p := ⟨w.heap.size+1, 0, none⟩) (by simp <;> omega)).trans (by go_simp); replace zz1 : w9.cell? ⟨w.heap.size+1, 1, none⟩ = some (.int .i64 0) := (hC.cell (p := ⟨w.heap.size+1, 1, none⟩) (by simp <;> omega)).trans (by go_simp); replace zz2 : w9.cell? ⟨g, 0, none⟩ = some (.int .i64 off) := (hC.cell (p := ⟨g, 0, none⟩) (by simp <;> omega)).trans (by go_simp); replace zz3 : w9.cell? ⟨g, 1, none⟩ = some (.int .i64 la) := (hC.cell (p := ⟨g, 1, none⟩) (by simp <;> omega)).trans (by go_simp); replace zz4 : w9.cell? ⟨g, 2, none⟩ = some (.int .i64 lb) := (hC.cell (p := ⟨g, 2, none⟩) (by simp <;> omega)).trans (by go_simp); go_simp; first | done | exact rfl | exact ⟨rfl, rfl⟩
  simp only [Act.put, List.setIfInBounds_toArray, List.set_cons_succ, List.set_cons_zero]
  refine quiet_ext ?_; apply Exists.intro; refine ⟨fun w9 hC => ?_, ?_⟩
  · replace zz0 : w9.cell? ⟨w.heap.size+1, 0, none⟩ = some (.int .i64 t) := (hC.cell (p := ⟨w.heap.size+1, 0, none⟩) (by simp <;> omega)).trans (by go_simp); replace zz1 : w9.cell? ⟨w.heap.size+1, 1, none⟩ = some (.int .i64 0) := (hC.cell (p := ⟨w.heap.size+1, 1, none⟩) (by simp <;> omega)).trans (by go_simp); replace zz2 : w9.cell? ⟨g, 0, none⟩ = some (.int .i64 off) := (hC.cell (p := ⟨g, 0, none⟩) (by simp <;> omega)).trans (by go_simp); replace zz3 : w9.cell? ⟨g, 1, none⟩ = some (.int .i64 la) := (hC.cell (p := ⟨g, 1, none⟩) (by simp <;> omega)).trans (by go_simp); replace zz4 : w9.cell? ⟨g, 2, none⟩ = some (.int .i64 lb) := (hC.cell (p := ⟨g, 2, none⟩) (by simp <;> omega)).trans (by go_simp); go_simp; first | done | exact rfl | exact ⟨rfl, rfl⟩
  simp only [Act.put, List.setIfInBounds_toArray, List.set_cons_succ, List.set_cons_zero]
  refine quiet_ext ?_; apply Exists.intro; refine ⟨fun w9 hC => ?_, ?_⟩
  · replace zz0 : w9.cell? ⟨w.heap.size+1, 0, none⟩ = some (.int .i64 t) := (hC.cell (p := ⟨w.heap.size+1, 0, none⟩) (by simp <;> omega)).trans (by go_simp); replace zz1 : w9.cell? ⟨w.heap.size+1, 1, none⟩ = some (.int .i64 0) := (hC.cell (p := ⟨w.heap.size+1, 1, none⟩) (by simp <;> omega)).trans (by go_simp); replace zz2 : w9.cell? ⟨g, 0, none⟩ = some (.int .i64 off) := (hC.cell (p := ⟨g, 0, none⟩) (by simp <;> omega)).trans (by go_simp); replace zz3 : w9.cell? ⟨g, 1, none⟩ = some (.int .i64 la) := (hC.cell (p := ⟨g, 1, none⟩) (by simp <;> omega)).trans (by go_simp); replace zz4 : w9.cell? ⟨g, 2, none⟩ = some (.int .i64 lb) := (hC.cell (p := ⟨g, 2, none⟩) (by simp <;> omega)).trans (by go_simp); go_simp; exact (rCompare_any t 0 la lb _).mono fun _ _ h => ⟨h.1, ext_call hC h.2⟩
  simp only [Act.put, List.setIfInBounds_toArray, List.set_cons_succ, List.set_cons_zero]
  refine quiet_ext ?_; apply Exists.intro; refine ⟨fun w9 hC => ?_, ?_⟩
  · replace zz0 : w9.cell? ⟨w.heap.size+1, 0, none⟩ = some (.int .i64 t) := (hC.cell (p := ⟨w.heap.size+1, 0, none⟩) (by simp <;> omega)).trans (by go_simp); replace zz1 : w9.cell? ⟨w.heap.size+1, 1, none⟩ = some (.int .i64 0) := (hC.cell (p := ⟨w.heap.size+1, 1, none⟩) (by simp <;> omega)).trans (by go_simp); replace zz2 : w9.cell? ⟨g, 0, none⟩ = some (.int .i64 off) := (hC.cell (p := ⟨g, 0, none⟩) (by simp <;> omega)).trans (by go_simp); replace zz3 : w9.cell? ⟨g, 1, none⟩ = some (.int .i64 la) := (hC.cell (p := ⟨g, 1, none⟩) (by simp <;> omega)).trans (by go_simp); replace zz4 : w9.cell? ⟨g, 2, none⟩ = some (.int .i64 lb) := (hC.cell (p := ⟨g, 2, none⟩) (by simp <;> omega)).trans (by go_simp); go_simp; first | done | exact rfl | exact ⟨rfl, rfl⟩
  simp only [Act.put, List.setIfInBounds_toArray, List.set_cons_succ, List.set_cons_zero]
  refine wpQuiet_nil ?_
  intro w2 hC
  replace k0 : w2.cell? ⟨w.heap.size, 0, none⟩ = some (.int .i64 0) := (hC.cell (p := ⟨w.heap.size, 0, none⟩) (by simp <;> omega)).trans (by go_simp); replace k0f : w2.frozen? ⟨w.heap.size, 0, none⟩ = false := (hC.frozen (p := ⟨w.heap.size, 0, none⟩) (by simp <;> omega)).trans (by go_simp); replace k1 : w2.cell? ⟨w.heap.size, 1, none⟩ = some (.int .i64 0) := (hC.cell (p := ⟨w.heap.size, 1, none⟩) (by simp <;> omega)).trans (by go_simp); replace k1f : w2.frozen? ⟨w.heap.size, 1, none⟩ = false := (hC.frozen (p := ⟨w.heap.size, 1, none⟩) (by simp <;> omega)).trans (by go_simp); replace k2 : w2.cell? ⟨w.heap.size+1, 0, none⟩ = some (.int .i64 t) := (hC.cell (p := ⟨w.heap.size+1, 0, none⟩) (by simp <;> omega)).trans (by go_simp); replace k2f : w2.frozen? ⟨w.heap.size+1, 0, none⟩ = false := (hC.frozen (p := ⟨w.heap.size+1, 0, none⟩) (by simp <;> omega)).trans (by go_simp); replace k3 : w2.cell? ⟨w.heap.size+1, 1, none⟩ = some (.int .i64 0) := (hC.cell (p := ⟨w.heap.size+1, 1, none⟩) (by simp <;> omega)).trans (by go_simp); replace k3f : w2.frozen? ⟨w.heap.size+1, 1, none⟩ = false := (hC.frozen (p := ⟨w.heap.size+1, 1, none⟩) (by simp <;> omega)).trans (by go_simp)
  replace g0 : w2.cell? ⟨g, 0, none⟩ = some (.int .i64 off) := (hC.cell (p := ⟨g, 0, none⟩) (by simp <;> omega)).trans (by go_simp)
  replace q0 : w2.cell? ⟨g, 1, none⟩ = some (.int .i64 la) := (hC.cell (p := ⟨g, 1, none⟩) (by simp <;> omega)).trans (by go_simp); replace q0f : w2.frozen? ⟨g, 1, none⟩ = false := (hC.frozen (p := ⟨g, 1, none⟩) (by simp <;> omega)).trans (by go_simp); replace q1 : w2.cell? ⟨g, 2, none⟩ = some (.int .i64 lb) := (hC.cell (p := ⟨g, 2, none⟩) (by simp <;> omega)).trans (by go_simp); replace q1f : w2.frozen? ⟨g, 2, none⟩ = false := (hC.frozen (p := ⟨g, 2, none⟩) (by simp <;> omega)).trans (by go_simp)
  have z := hC.below.size; (try simp at z)
  have y0 : g < w2.heap.size := by omega
  have y1 : w.heap.size < w2.heap.size := by omega
  have y2 : w.heap.size + 1 < w2.heap.size := by omega
  have hb := hC.below
  have G : w.grownBy w2 (some g) := (by repeat' (first | (with_reducible exact gb_refl _ _) | (with_reducible assumption) | (with_reducible refine gb_set ?_ ?_ _) | (with_reducible refine gb_alloc ?_ _) | (with_reducible refine gb_drew ?_) | (with_reducible refine gb_call ?_ (by assumption)) | exact .inl rfl | exact .inr (by simp <;> omega)))
  clear hC hb c0 c1 c2 f1 f2
  go_wp2_with fail
  refine (rNext_any la lb _).mono ?_
  rintro e w3 ⟨rfl, hb3⟩
  have z3 := hb3.size; (try simp at z3)
  replace G : w.grownBy w3 (some g) := gb_call G hb3
  replace y0 : g < w3.heap.size := by omega
  replace y1 : w.heap.size < w3.heap.size := by omega
  replace y2 : w.heap.size + 1 < w3.heap.size := by omega
  replace k0 : w3.cell? ⟨w.heap.size, 0, none⟩ = some (.int .i64 0) := (hb3.cell (p := ⟨w.heap.size, 0, none⟩) (by simp <;> omega)).trans (by go_simp); replace k0f : w3.frozen? ⟨w.heap.size, 0, none⟩ = false := (hb3.frozen (p := ⟨w.heap.size, 0, none⟩) (by simp <;> omega)).trans (by go_simp); replace k1 : w3.cell? ⟨w.heap.size, 1, none⟩ = some (.int .i64 0) := (hb3.cell (p := ⟨w.heap.size, 1, none⟩) (by simp <;> omega)).trans (by go_simp); replace k1f : w3.frozen? ⟨w.heap.size, 1, none⟩ = false := (hb3.frozen (p := ⟨w.heap.size, 1, none⟩) (by simp <;> omega)).trans (by go_simp); replace k2 : w3.cell? ⟨w.heap.size+1, 0, none⟩ = some (.int .i64 t) := (hb3.cell (p := ⟨w.heap.size+1, 0, none⟩) (by simp <;> omega)).trans (by go_simp); replace k2f : w3.frozen? ⟨w.heap.size+1, 0, none⟩ = false := (hb3.frozen (p := ⟨w.heap.size+1, 0, none⟩) (by simp <;> omega)).trans (by go_simp); replace k3 : w3.cell? ⟨w.heap.size+1, 1, none⟩ = some (.int .i64 0) := (hb3.cell (p := ⟨w.heap.size+1, 1, none⟩) (by simp <;> omega)).trans (by go_simp); replace k3f : w3.frozen? ⟨w.heap.size+1, 1, none⟩ = false := (hb3.frozen (p := ⟨w.heap.size+1, 1, none⟩) (by simp <;> omega)).trans (by go_simp)
  replace g0 : w3.cell? ⟨g, 0, none⟩ = some (.int .i64 off) := (hb3.cell (p := ⟨g, 0, none⟩) (by simp <;> omega)).trans (by go_simp)
  replace q0 : w3.cell? ⟨g, 1, none⟩ = some (.int .i64 la) := (hb3.cell (p := ⟨g, 1, none⟩) (by simp <;> omega)).trans (by go_simp); replace q0f : w3.frozen? ⟨g, 1, none⟩ = false := (hb3.frozen (p := ⟨g, 1, none⟩) (by simp <;> omega)).trans (by go_simp); replace q1 : w3.cell? ⟨g, 2, none⟩ = some (.int .i64 lb) := (hb3.cell (p := ⟨g, 2, none⟩) (by simp <;> omega)).trans (by go_simp); replace q1f : w3.frozen? ⟨g, 2, none⟩ = false := (hb3.frozen (p := ⟨g, 2, none⟩) (by simp <;> omega)).trans (by go_simp)
  clear hb3
  unfold vse
  go_wp2_with fail
  exact bodyPost_ret (v := vse ((next la lb).1, (next la lb).2.1, 0)) (by simp [results, Try.results27, go_sem, k0, k1, k0f, k1f, y0, y1, y2, vse]) rfl ⟨rfl, ⟨by simp <;> omega, by go_simp, by go_simp, by go_simp, by go_simp, by go_simp⟩, (by repeat' (first | (with_reducible exact gb_refl _ _) | (with_reducible assumption) | (with_reducible refine gb_set ?_ ?_ _) | (with_reducible refine gb_alloc ?_ _) | (with_reducible refine gb_drew ?_) | (with_reducible refine gb_call ?_ (by assumption)) | exact .inl rfl | exact .inr (by simp <;> omega)))⟩

set_option maxHeartbeats 1000000 in
theorem rnow3 (g : Nat) (off la lb t : Int) (w : World) (h : Clk w g off la lb) (ht : isWall t = true) (hc : cmpS t 0 la lb ≤ 0) (hn : (next la lb).2.2 ≠ 0) :
    Calls Try.prog 27 #[.pointer (some ⟨g, 0, none⟩), .int .i64 t] w (NowPost g off la lb t w) := by
  have e1 : nowR la lb t = (0, 0, (next la lb).2.2) := by unfold nowR; rw [if_neg (by simp [ht]), if_neg (by omega), if_neg hn]
  have e2 : nowL la lb t = (la, lb) := by unfold nowL; rw [e1]; exact if_neg hn
  unfold NowPost
  rw [e1, e2]
  clear e1 e2
  have hq : decide (cmpS t 0 la lb ≤ 0) = true := by simp; omega
  have ht1 : (!isWall t) = false := by simp [ht]
  clear hc ht
  have hn1 : ((next la lb).2.2 != 0) = true := by simp; exact hn
  clear hn
  obtain ⟨lt, c0, c1, c2, f1, f2⟩ := h
  go_enter Try.func27, Try.ntmps27
  go_wp2_with (go_at_call 23; refine (rIsWall_any _ _).mono ?_; rintro e w' ⟨rfl, rfl⟩)
  refine wp_region_below (by kernel_rfl) (by kernel_rfl) ?_
  refine quiet_ext ?_; apply Exists.intro; refine ⟨fun w9 hC => ?_, ?_⟩
  · replace zz0 : w9.cell? ⟨w.heap.size+1, 0, none⟩ = some (.int .i64 t) := (hC.cell (p := ⟨w.heap.size+1, 0, none⟩) (by simp <;> omega)).trans (by go_simp); replace zz1 : w9.cell? ⟨w.heap.size+1, 1, none⟩ = some (.int .i64 0) := (hC.cell (p := ⟨w.heap.size+1, 1, none⟩) (by simp <;> omega)).trans (by go_simp); replace zz2 : w9.cell? ⟨g, 0, none⟩ = some (.int .i64 off) := (hC.cell (p := ⟨g, 0, none⟩) (by simp <;> omega)).trans (by go_simp); replace zz3 : w9.cell? ⟨g, 1, none⟩ = some (.int .i64 la) := (hC.cell (p := ⟨g, 1, none⟩) (by simp <;> omega)).trans (by go_simp); replace zz4 : w9.cell? ⟨g, 2, none⟩ = some (.int .i64 lb) := (hC.cell (p := ⟨g, 2, none⟩) (by simp <;> omega)).trans (by go_simp); go_simp; first | done | exact rfl | exact ⟨rfl, rfl⟩
  simp only [Act.put, List.setIfInBounds_toArray, List.set_cons_succ, List.set_cons_zero]
  refine quiet_ext ?_; apply Exists.intro; refine ⟨fun w9 hC => ?_, ?_⟩
  · replace zz0 : w9.cell? ⟨w.heap.size+1, 0, none⟩ = some (.int .i64 t) := (hC.cell (p := ⟨w.heap.size+1, 0, none⟩) (by simp <;> omega)).trans (by go_simp); replace zz1 : w9.cell? ⟨w.heap.size+1, 1, none⟩ = some (.int .i64 0) := (hC.cell (p := ⟨w.heap.size+1, 1, none⟩) (by simp <;> omega)).trans (by go_simp); replace zz2 : w9.cell? ⟨g, 0, none⟩ = some (.int .i64 off) := (hC.cell (p := ⟨g, 0, none⟩) (by simp <;> omega)).trans (by go_simp); replace zz3 : w9.cell? ⟨g, 1, none⟩ = some (.int .i64 la) := (hC.cell (p := ⟨g, 1, none⟩) (by simp <;> omega)).trans (by go_simp); replace zz4 : w9.cell? ⟨g, 2, none⟩ = some (.int .i64 lb) := (hC.cell (p := ⟨g, 2, none⟩) (by simp <;> omega)).trans (by go_simp); go_simp; first | done | exact rfl | exact ⟨rfl, rfl⟩
  simp only [Act.put, List.setIfInBounds_toArray, List.set_cons_succ, List.set_cons_zero]
  refine quiet_ext ?_; apply Exists.intro; refine ⟨fun w9 hC => ?_, ?_⟩
  · replace zz0 : w9.cell? ⟨w.heap.size+1, 0, none⟩ = some (.int .i64 t) := (hC.cell (p := ⟨w.heap.size+1, 0, none⟩) (by simp <;> omega)).trans (by go_simp); replace zz1 : w9.cell? ⟨w.heap.size+1, 1, none⟩ = some (.int .i64 0) := (hC.cell (p := ⟨w.heap.size+1, 1, none⟩) (by simp <;> omega)).trans (by go_simp); replace zz2 : w9.cell? ⟨g, 0, none⟩ = some (.int .i64 off) := (hC.cell (p := ⟨g, 0, none⟩) (by simp <;> omega)).trans (by go_simp); replace zz3 : w9.cell? ⟨g, 1, none⟩ = some (.int .i64 la) := (hC.cell (p := ⟨g, 1, none⟩) (by simp <;> omega)).trans (by go_simp); replace zz4 : w9.cell? ⟨g, 2, none⟩ = some (.int .i64 lb) := (hC.cell (p := ⟨g, 2, none⟩) (by simp <;> omega)).trans (by go_simp); go_simp; first | done | exact rfl | exact ⟨rfl, rfl⟩
  simp only [Act.put, List.setIfInBounds_toArray, List.set_cons_succ, List.set_cons_zero]
  refine quiet_ext ?_; apply Exists.intro; refine ⟨fun w9 hC => ?_, ?_⟩
  · replace zz0 : w9.cell? ⟨w.heap.size+1, 0, none⟩ = some (.int .i64 t) := (hC.cell (p := ⟨w.heap.size+1, 0, none⟩) (by simp <;> omega)).trans (by go_simp); replace zz1 : w9.cell? ⟨w.heap.size+1, 1, none⟩ = some (.int .i64 0) := (hC.cell (p := ⟨w.heap.size+1, 1, none⟩) (by simp <;> omega)).trans (by go_simp); replace zz2 : w9.cell? ⟨g, 0, none⟩ = some (.int .i64 off) := (hC.cell (p := ⟨g, 0, none⟩) (by simp <;> omega)).trans (by go_simp); replace zz3 : w9.cell? ⟨g, 1, none⟩ = some (.int .i64 la) := (hC.cell (p := ⟨g, 1, none⟩) (by simp <;> omega)).trans (by go_simp); replace zz4 : w9.cell? ⟨g, 2, none⟩ = some (.int .i64 lb) := (hC.cell (p := ⟨g, 2, none⟩) (by simp <;> omega)).trans (by go_simp); go_simp; first | done | exact rfl | exact ⟨rfl, rfl⟩
  simp only [Act.put, List.setIfInBounds_toArray, List.set_cons_succ, List.set_cons_zero]
  refine quiet_ext ?_; apply Exists.intro; refine ⟨fun w9 hC => ?_, ?_⟩
  · replace zz0 : w9.cell? ⟨w.heap.size+1, 0, none⟩ = some (.int .i64 t) := (hC.cell (p := ⟨w.heap.size+1, 0, none⟩) (by simp <;> omega)).trans (by go_simp); replace zz1 : w9.cell? ⟨w.heap.size+1, 1, none⟩ = some (.int .i64 0) := (hC.cell (p := ⟨w.heap.size+1, 1, none⟩) (by simp <;> omega)).trans (by go_simp); replace zz2 : w9.cell? ⟨g, 0, none⟩ = some (.int .i64 off) := (hC.cell (p := ⟨g, 0, none⟩) (by simp <;> omega)).trans (by go_simp); replace zz3 : w9.cell? ⟨g, 1, none⟩ = some (.int .i64 la) := (hC.cell (p := ⟨g, 1, none⟩) (by simp <;> omega)).trans (by go_simp); replace zz4 : w9.cell? ⟨g, 2, none⟩ = some (.int .i64 lb) := (hC.cell (p := ⟨g, 2, none⟩) (by simp <;> omega)).trans (by go_simp); go_simp; first | done | exact rfl | exact ⟨rfl, rfl⟩
  simp only [Act.put, List.setIfInBounds_toArray, List.set_cons_succ, List.set_cons_zero]
  refine quiet_ext ?_; apply Exists.intro; refine ⟨fun w9 hC => ?_, ?_⟩
  · replace zz0 : w9.cell? ⟨w.heap.size+1, 0, none⟩ = some (.int .i64 t) := (hC.cell (p := ⟨w.heap.size+1, 0, none⟩) (by simp <;> omega)).trans (by go_simp); replace zz1 : w9.cell? ⟨w.heap.size+1, 1, none⟩ = some (.int .i64 0) := (hC.cell (p := ⟨w.heap.size+1, 1, none⟩) (by simp <;> omega)).trans (by go_simp); replace zz2 : w9.cell? ⟨g, 0, none⟩ = some (.int .i64 off) := (hC.cell (p := ⟨g, 0, none⟩) (by simp <;> omega)).trans (by go_simp); replace zz3 : w9.cell? ⟨g, 1, none⟩ = some (.int .i64 la) := (hC.cell (p := ⟨g, 1, none⟩) (by simp <;> omega)).trans (by go_simp); replace zz4 : w9.cell? ⟨g, 2, none⟩ = some (.int .i64 lb) := (hC.cell (p := ⟨g, 2, none⟩) (by simp <;> omega)).trans (by go_simp); go_simp; exact (rCompare_any t 0 la lb _).mono fun _ _ h => ⟨h.1, ext_call hC h.2⟩
  simp only [Act.put, List.setIfInBounds_toArray, List.set_cons_succ, List.set_cons_zero]
  refine quiet_ext ?_; apply Exists.intro; refine ⟨fun w9 hC => ?_, ?_⟩
  · replace zz0 : w9.cell? ⟨w.heap.size+1, 0, none⟩ = some (.int .i64 t) := (hC.cell (p := ⟨w.heap.size+1, 0, none⟩) (by simp <;> omega)).trans (by go_simp); replace zz1 : w9.cell? ⟨w.heap.size+1, 1, none⟩ = some (.int .i64 0) := (hC.cell (p := ⟨w.heap.size+1, 1, none⟩) (by simp <;> omega)).trans (by go_simp); replace zz2 : w9.cell? ⟨g, 0, none⟩ = some (.int .i64 off) := (hC.cell (p := ⟨g, 0, none⟩) (by simp <;> omega)).trans (by go_simp); replace zz3 : w9.cell? ⟨g, 1, none⟩ = some (.int .i64 la) := (hC.cell (p := ⟨g, 1, none⟩) (by simp <;> omega)).trans (by go_simp); replace zz4 : w9.cell? ⟨g, 2, none⟩ = some (.int .i64 lb) := (hC.cell (p := ⟨g, 2, none⟩) (by simp <;> omega)).trans (by go_simp); go_simp; first | done | exact rfl | exact ⟨rfl, rfl⟩
  simp only [Act.put, List.setIfInBounds_toArray, List.set_cons_succ, List.set_cons_zero]
  refine wpQuiet_nil ?_
  intro w2 hC
  replace k0 : w2.cell? ⟨w.heap.size, 0, none⟩ = some (.int .i64 0) := (hC.cell (p := ⟨w.heap.size, 0, none⟩) (by simp <;> omega)).trans (by go_simp); replace k0f : w2.frozen? ⟨w.heap.size, 0, none⟩ = false := (hC.frozen (p := ⟨w.heap.size, 0, none⟩) (by simp <;> omega)).trans (by go_simp); replace k1 : w2.cell? ⟨w.heap.size, 1, none⟩ = some (.int .i64 0) := (hC.cell (p := ⟨w.heap.size, 1, none⟩) (by simp <;> omega)).trans (by go_simp); replace k1f : w2.frozen? ⟨w.heap.size, 1, none⟩ = false := (hC.frozen (p := ⟨w.heap.size, 1, none⟩) (by simp <;> omega)).trans (by go_simp); replace k2 : w2.cell? ⟨w.heap.size+1, 0, none⟩ = some (.int .i64 t) := (hC.cell (p := ⟨w.heap.size+1, 0, none⟩) (by simp <;> omega)).trans (by go_simp); replace k2f : w2.frozen? ⟨w.heap.size+1, 0, none⟩ = false := (hC.frozen (p := ⟨w.heap.size+1, 0, none⟩) (by simp <;> omega)).trans (by go_simp); replace k3 : w2.cell? ⟨w.heap.size+1, 1, none⟩ = some (.int .i64 0) := (hC.cell (p := ⟨w.heap.size+1, 1, none⟩) (by simp <;> omega)).trans (by go_simp); replace k3f : w2.frozen? ⟨w.heap.size+1, 1, none⟩ = false := (hC.frozen (p := ⟨w.heap.size+1, 1, none⟩) (by simp <;> omega)).trans (by go_simp)
  replace g0 : w2.cell? ⟨g, 0, none⟩ = some (.int .i64 off) := (hC.cell (p := ⟨g, 0, none⟩) (by simp <;> omega)).trans (by go_simp)
  replace q0 : w2.cell? ⟨g, 1, none⟩ = some (.int .i64 la) := (hC.cell (p := ⟨g, 1, none⟩) (by simp <;> omega)).trans (by go_simp); replace q0f : w2.frozen? ⟨g, 1, none⟩ = false := (hC.frozen (p := ⟨g, 1, none⟩) (by simp <;> omega)).trans (by go_simp); replace q1 : w2.cell? ⟨g, 2, none⟩ = some (.int .i64 lb) := (hC.cell (p := ⟨g, 2, none⟩) (by simp <;> omega)).trans (by go_simp); replace q1f : w2.frozen? ⟨g, 2, none⟩ = false := (hC.frozen (p := ⟨g, 2, none⟩) (by simp <;> omega)).trans (by go_simp)
  have z := hC.below.size; (try simp at z)
  have y0 : g < w2.heap.size := by omega
  have y1 : w.heap.size < w2.heap.size := by omega
  have y2 : w.heap.size + 1 < w2.heap.size := by omega
  have hb := hC.below
  have G : w.grownBy w2 (some g) := (by repeat' (first | (with_reducible exact gb_refl _ _) | (with_reducible assumption) | (with_reducible refine gb_set ?_ ?_ _) | (with_reducible refine gb_alloc ?_ _) | (with_reducible refine gb_drew ?_) | (with_reducible refine gb_call ?_ (by assumption)) | exact .inl rfl | exact .inr (by simp <;> omega)))
  clear hC hb c0 c1 c2 f1 f2
  go_wp2_with fail
  refine (rNext_any la lb _).mono ?_
  rintro e w3 ⟨rfl, hb3⟩
  have z3 := hb3.size; (try simp at z3)
  replace G : w.grownBy w3 (some g) := gb_call G hb3
  replace y0 : g < w3.heap.size := by omega
  replace y1 : w.heap.size < w3.heap.size := by omega
  replace y2 : w.heap.size + 1 < w3.heap.size := by omega
  replace k0 : w3.cell? ⟨w.heap.size, 0, none⟩ = some (.int .i64 0) := (hb3.cell (p := ⟨w.heap.size, 0, none⟩) (by simp <;> omega)).trans (by go_simp); replace k0f : w3.frozen? ⟨w.heap.size, 0, none⟩ = false := (hb3.frozen (p := ⟨w.heap.size, 0, none⟩) (by simp <;> omega)).trans (by go_simp); replace k1 : w3.cell? ⟨w.heap.size, 1, none⟩ = some (.int .i64 0) := (hb3.cell (p := ⟨w.heap.size, 1, none⟩) (by simp <;> omega)).trans (by go_simp); replace k1f : w3.frozen? ⟨w.heap.size, 1, none⟩ = false := (hb3.frozen (p := ⟨w.heap.size, 1, none⟩) (by simp <;> omega)).trans (by go_simp); replace k2 : w3.cell? ⟨w.heap.size+1, 0, none⟩ = some (.int .i64 t) := (hb3.cell (p := ⟨w.heap.size+1, 0, none⟩) (by simp <;> omega)).trans (by go_simp); replace k2f : w3.frozen? ⟨w.heap.size+1, 0, none⟩ = false := (hb3.frozen (p := ⟨w.heap.size+1, 0, none⟩) (by simp <;> omega)).trans (by go_simp); replace k3 : w3.cell? ⟨w.heap.size+1, 1, none⟩ = some (.int .i64 0) := (hb3.cell (p := ⟨w.heap.size+1, 1, none⟩) (by simp <;> omega)).trans (by go_simp); replace k3f : w3.frozen? ⟨w.heap.size+1, 1, none⟩ = false := (hb3.frozen (p := ⟨w.heap.size+1, 1, none⟩) (by simp <;> omega)).trans (by go_simp)
  replace g0 : w3.cell? ⟨g, 0, none⟩ = some (.int .i64 off) := (hb3.cell (p := ⟨g, 0, none⟩) (by simp <;> omega)).trans (by go_simp)
  replace q0 : w3.cell? ⟨g, 1, none⟩ = some (.int .i64 la) := (hb3.cell (p := ⟨g, 1, none⟩) (by simp <;> omega)).trans (by go_simp); replace q0f : w3.frozen? ⟨g, 1, none⟩ = false := (hb3.frozen (p := ⟨g, 1, none⟩) (by simp <;> omega)).trans (by go_simp); replace q1 : w3.cell? ⟨g, 2, none⟩ = some (.int .i64 lb) := (hb3.cell (p := ⟨g, 2, none⟩) (by simp <;> omega)).trans (by go_simp); replace q1f : w3.frozen? ⟨g, 2, none⟩ = false := (hb3.frozen (p := ⟨g, 2, none⟩) (by simp <;> omega)).trans (by go_simp)
  clear hb3
  unfold vse
  go_wp2_with fail
  exact bodyPost_ret (v := vse (0, 0, (next la lb).2.2)) (by simp [results, Try.results27, go_sem, k0, k1, k0f, k1f, y0, y1, y2, vse]) rfl ⟨rfl, ⟨by simp <;> omega, by go_simp, by go_simp, by go_simp, by go_simp, by go_simp⟩, (by repeat' (first | (with_reducible exact gb_refl _ _) | (with_reducible assumption) | (with_reducible refine gb_set ?_ ?_ _) | (with_reducible refine gb_alloc ?_ _) | (with_reducible refine gb_drew ?_) | (with_reducible refine gb_call ?_ (by assumption)) | exact .inl rfl | exact .inr (by simp <;> omega)))⟩

theorem rnow_any (g : Nat) (off la lb t : Int) (w : World) (h : Clk w g off la lb) :
    Calls Try.prog 27 #[.pointer (some ⟨g, 0, none⟩), .int .i64 t] w (NowPost g off la lb t w) := by
  cases ht : isWall t
  · exact rnow0 g off la lb t w h ht
  · by_cases hc : 0 < cmpS t 0 la lb
    · exact rnow1 g off la lb t w h ht hc
    · by_cases hn : (next la lb).2.2 = 0
      · exact rnow2 g off la lb t w h ht (by omega) hn
      · exact rnow3 g off la lb t w h ht (by omega) hn

end Hlc
end Go.Proofs.Ytogooghigeemaaa
