/- pgwire: what is said of an error, by both. -/
import Derived.Test.YthaekefdadccaaaDoorSy2
set_option linter.unusedVariables false
set_option linter.unusedSimpArgs false
namespace Go.Proofs.YthaekefdadccaaaDoor
open Go.RowKit
namespace Sy
set_option maxRecDepth 100000 in
set_option maxHeartbeats 8000000 in
theorem said_any (e : Int) (w : World) : Calls Tryd.prog 51 #[.int .i64 e] w (Ret (.agg #[.string (saidB e).1, .string (saidB e).2]) w) := by
  go_enter Tryd.func51, Tryd.ntmps51
  go_wp2_with fail
  all_goals first
    | (simp only [beq_iff_eq, beq_eq_false_iff_ne, ne_eq] at *; have hW := Below.refl w.heap.size w; refine bodyPost_ret (v := .agg #[.string (saidB e).1, .string (saidB e).2]) (by simp [results, Tryd.results51, go_sem, saidB, worseB, *]) rfl ⟨rfl, ?_⟩; exact (by repeat' (first | (with_reducible exact Below.refl _ _) | (with_reducible assumption) | (with_reducible refine Below.drew ?_) | (with_reducible refine below_drewN ?_ _) | (with_reducible refine bel_alloc ?_ _) | (with_reducible refine Below.setCell ?_ ?_ _) | (with_reducible refine bel_call ?_ (by assumption)) | (simp <;> omega))))
    | (simp only [beq_iff_eq, beq_eq_false_iff_ne, ne_eq] at *; have hS : saidB e = worseB e := (by simp [saidB, *]); refine (worse_any e _).mono ?_; rintro _ w1 ⟨rfl, hb1⟩; have HB := Lib.hid (bel_call (bel_alloc (Below.refl _ w) _) hb1); have z0 : w1.cell? ⟨w.heap.size, 0, none⟩ = some (.string ⟨#[]⟩) := (hb1.cell (p := ⟨w.heap.size, 0, none⟩) (by simp)).trans (by go_simp); have f0 : w1.frozen? ⟨w.heap.size, 0, none⟩ = false := (hb1.frozen (p := ⟨w.heap.size, 0, none⟩) (by simp)).trans (by go_simp); have z1 : w1.cell? ⟨w.heap.size, 1, none⟩ = some (.string ⟨#[]⟩) := (hb1.cell (p := ⟨w.heap.size, 1, none⟩) (by simp)).trans (by go_simp); have f1 : w1.frozen? ⟨w.heap.size, 1, none⟩ = false := (hb1.frozen (p := ⟨w.heap.size, 1, none⟩) (by simp)).trans (by go_simp); clear hb1; rw [← hS]; go_wp2_with fail; refine bodyPost_ret (v := .agg #[.string (saidB e).1, .string (saidB e).2]) (by simp [results, Tryd.results51, go_sem]; go_simp) rfl ⟨rfl, ?_⟩; have hB := HB.out; exact (by repeat' (first | (with_reducible exact Below.refl _ _) | (with_reducible assumption) | (with_reducible refine Below.drew ?_) | (with_reducible refine below_drewN ?_ _) | (with_reducible refine bel_alloc ?_ _) | (with_reducible refine Below.setCell ?_ ?_ _) | (with_reducible refine bel_call ?_ (by assumption)) | (simp <;> omega))))
set_option maxRecDepth 100000 in
theorem fld0 (w : World) (x y : ByteArray) : (Instr.field 88 (.agg #[.string x, .string y]) 0).run Tryd.prog w = .ok (.string x) w := by
  first
  | (unfold Instr.field; rw [Sem.run_bind, run_underlying Tryd.underlying88]; rfl)
  | (simp [Instr.field, run_underlying Tryd.underlying88, go_sem]; done)
  | rfl
set_option maxRecDepth 100000 in
theorem fld1 (w : World) (x y : ByteArray) : (Instr.field 88 (.agg #[.string x, .string y]) 1).run Tryd.prog w = .ok (.string y) w := by
  first
  | (unfold Instr.field; rw [Sem.run_bind, run_underlying Tryd.underlying88]; rfl)
  | (simp [Instr.field, run_underlying Tryd.underlying88, go_sem]; done)
  | rfl
set_option maxRecDepth 100000 in
theorem state_any (e : Int) (w : World) : Calls Tryd.prog 22 #[.int .i64 e] w (Ret (.string (saidB e).1) w) := by
  have HC := Lib.hid (said_any e w)
  have q0 := fun w x y => fld0 w x y
  go_enter Tryd.func22, Tryd.ntmps22
  go_wp2_with fail
  refine HC.out.mono ?_
  rintro _ w1 ⟨rfl, hb⟩
  go_wp2_with fail
  go_ret
  exact ⟨rfl, hb⟩
set_option maxRecDepth 100000 in
theorem words_any (e : Int) (w : World) : Calls Tryd.prog 23 #[.int .i64 e] w (Ret (.string (saidB e).2) w) := by
  have HC := Lib.hid (said_any e w)
  have q0 := fun w x y => fld1 w x y
  go_enter Tryd.func23, Tryd.ntmps23
  go_wp2_with fail
  refine HC.out.mono ?_
  rintro _ w1 ⟨rfl, hb⟩
  go_wp2_with fail
  go_ret
  exact ⟨rfl, hb⟩
end Sy
end Go.Proofs.YthaekefdadccaaaDoor
