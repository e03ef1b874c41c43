/- hlc.Bytes and the document's answer: nine bytes, or refused. -/
import Derived.Test.YtogooghigeemaaaHlcLaws
import Derived.Test.YtogooghigeemaaaBytes
namespace Go.Proofs.Ytogooghigeemaaa
open Go.RowKit
namespace Hlc
/-- the nine bytes of a stamp -/
def bytesL (a b : Int) : List Int := [a / 281474976710656, a / 1099511627776 % 256, a / 4294967296 % 256, a / 16777216 % 256, a / 65536 % 256, a / 256 % 256, a % 256, b / 256, b % 256]
theorem bytesL_rng {a b : Int} (hr : right a b = true) : Rng (bytesL a b) := by
  have h := right_iff.1 hr
  intro x hx
  simp only [bytesL, List.mem_cons, List.not_mem_nil, or_false] at hx
  rcases hx with rfl | rfl | rfl | rfl | rfl | rfl | rfl | rfl | rfl <;> omega
def bytesL2 (a b : Int) : List Int := [a / 256 / 256 / 256 / 256 / 256 / 256 % 256, a / 256 / 256 / 256 / 256 / 256 % 256, a / 256 / 256 / 256 / 256 % 256, a / 256 / 256 / 256 % 256, a / 256 / 256 % 256, a / 256 % 256, a % 256, b / 256, b % 256]
theorem bytesL2_eq (a b : Int) (h : 0 ≤ a ∧ a ≤ 9007199254740991) : bytesL2 a b = bytesL a b := by
  have e1 : a / 256 / 256 / 256 / 256 / 256 / 256 % 256 = a / 281474976710656 := by omega
  have e2 : a / 256 / 256 / 256 / 256 / 256 % 256 = a / 1099511627776 % 256 := by omega
  have e3 : a / 256 / 256 / 256 / 256 % 256 = a / 4294967296 % 256 := by omega
  have e4 : a / 256 / 256 / 256 % 256 = a / 16777216 % 256 := by omega
  have e5 : a / 256 / 256 % 256 = a / 65536 % 256 := by omega
  unfold bytesL2 bytesL
  rw [e1, e2, e3, e4, e5]
/-- what Bytes leaves: a row of its own with the nine bytes -/
def BytesPost (a b : Int) (w : World) (e : Ending) (w' : World) : Prop :=
  ∃ v, e = .returned (.tuple #[v, .int .i64 0]) ∧ w'.ownsRow w.heap.size 5 1 v 9 ((bytesL a b).map (Value.int .u8)) ∧ Below w.heap.size w w'

set_option maxHeartbeats 8000000 in
theorem bytes_ok (a b : Int) (w : World) (hr : right a b = true) :
    Calls Try.prog 10 #[.agg #[.int .i64 a, .int .i64 b]] w (BytesPost a b w) := by
  have hbd := right_iff.1 hr
  have hr1 : (!right a b) = false := by simp [hr]
  clear hr
  have hmk : ∀ w, (Instr.makeSlice 24 (.int .i64 0) (.int .i64 9)).run Try.prog w = .ok (.slice (some ⟨w.heap.size, 0, none⟩) 0 9) (w.alloc (.cells #[.int .u8 0, .int .u8 0, .int .u8 0, .int .u8 0, .int .u8 0, .int .u8 0, .int .u8 0, .int .u8 0, .int .u8 0] 5)) := fun _ => by kernel_rfl
  go_enter Try.func10, Try.ntmps10
  go_wp2_with fail
  refine (right_any a b _).mono ?_
  rintro e w1 ⟨rfl, hb1⟩
  replace k0 : w1.cell? ⟨w.heap.size, 0, none⟩ = some (.int .i64 a) := (hb1.cell (p := ⟨w.heap.size, 0, none⟩) (by simp <;> omega)).trans (by go_simp); replace k1 : w1.cell? ⟨w.heap.size, 1, none⟩ = some (.int .i64 b) := (hb1.cell (p := ⟨w.heap.size, 1, none⟩) (by simp <;> omega)).trans (by go_simp)
  have z1 := hb1.size; (try simp at z1)
  have y0 : w.heap.size < w1.heap.size := by omega
  have gg : Below w.heap.size w w1 := (by repeat' (first | (with_reducible exact Below.refl _ _) | (with_reducible assumption) | (with_reducible refine Below.drew ?_) | (with_reducible refine below_drewN ?_ _) | (with_reducible refine bel_alloc ?_ _) | (with_reducible refine Below.setCell ?_ ?_ _) | (with_reducible refine bel_call ?_ (by assumption)) | (simp <;> omega)))
  clear hb1
  go_wp2_with fail
  refine wp_loop_rounds 8 ?_
  rw [rounds_succ]; go_wp2_with fail
  rw [rounds_succ]; go_wp2_with fail
  rw [rounds_succ]; go_wp2_with fail
  rw [rounds_succ]; go_wp2_with fail
  rw [rounds_succ]; go_wp2_with fail
  rw [rounds_succ]; go_wp2_with fail
  rw [rounds_succ]; go_wp2_with fail
  rw [rounds_succ]; go_wp2_with fail
  go_ret2
  refine ⟨_, rfl, ?_, (by repeat' (first | (with_reducible exact Below.refl _ _) | (with_reducible assumption) | (with_reducible refine Below.drew ?_) | (with_reducible refine below_drewN ?_ _) | (with_reducible refine bel_alloc ?_ _) | (with_reducible refine Below.setCell ?_ ?_ _) | (with_reducible refine bel_call ?_ (by assumption)) | (simp <;> omega)))⟩
  exact ((((((((World.ownsRow_lit w1 _ 9 (by omega) (by simp [maxLen]) (by simp)).alloc _).alloc _).alloc _).alloc _).alloc _).alloc _).alloc _).alloc _

set_option maxHeartbeats 400000 in
theorem bytes_bad (a b : Int) (w : World) (hr : right a b = false) :
    Calls Try.prog 10 #[.agg #[.int .i64 a, .int .i64 b]] w (Ret (.tuple #[.slice none 0 0, .int .i64 80]) w) := by
  have hr1 : (!right a b) = true := by simp [hr]
  clear hr
  go_enter Try.func10, Try.ntmps10
  go_wp2_with fail
  refine (right_any a b _).mono ?_
  rintro e w1 ⟨rfl, hb1⟩
  go_wp2_with fail
  go_ret2
  exact ⟨rfl, (by repeat' (first | (with_reducible exact Below.refl _ _) | (with_reducible assumption) | (with_reducible refine Below.drew ?_) | (with_reducible refine below_drewN ?_ _) | (with_reducible refine bel_alloc ?_ _) | (with_reducible refine Below.setCell ?_ ?_ _) | (with_reducible refine bel_call ?_ (by assumption)) | (simp <;> omega)))⟩

set_option maxHeartbeats 400000 in
theorem rBytes_bad (a b : Int) (w : World) (hr : right a b = false) :
    Calls Try.prog 11 #[.agg #[.int .i64 a, .int .i64 b]] w (Ret (.tuple #[.slice none 0 0, .int .i64 80]) w) := by
  have hr1 : (!right a b) = true := by simp [hr]
  clear hr
  go_enter Try.func11, Try.ntmps11
  go_wp2_with fail
  refine (rRight_any a b _).mono ?_
  rintro e w1 ⟨rfl, hb1⟩
  go_wp2_with fail
  go_ret2
  exact ⟨rfl, (by repeat' (first | (with_reducible exact Below.refl _ _) | (with_reducible assumption) | (with_reducible refine Below.drew ?_) | (with_reducible refine below_drewN ?_ _) | (with_reducible refine bel_alloc ?_ _) | (with_reducible refine Below.setCell ?_ ?_ _) | (with_reducible refine bel_call ?_ (by assumption)) | (simp <;> omega)))⟩

set_option maxHeartbeats 8000000 in
theorem rBytes_ok (a b : Int) (w : World) (hr : right a b = true) :
    Calls Try.prog 11 #[.agg #[.int .i64 a, .int .i64 b]] w (BytesPost a b w) := by
  have hbd := right_iff.1 hr
  have hr1 : (!right a b) = false := by simp [hr]
  clear hr
  have hmk : ∀ w, (Instr.makeSlice 24 (.int .i64 9) (.int .i64 9)).run Try.prog w = .ok (.slice (some ⟨w.heap.size, 0, none⟩) 9 9) (w.alloc (.cells #[.int .u8 0, .int .u8 0, .int .u8 0, .int .u8 0, .int .u8 0, .int .u8 0, .int .u8 0, .int .u8 0, .int .u8 0] 5)) := fun _ => by kernel_rfl
  go_enter Try.func11, Try.ntmps11
  go_wp2_with fail
  refine (rRight_any a b _).mono ?_
  rintro e w1 ⟨rfl, hb1⟩
  replace k0 : w1.cell? ⟨w.heap.size, 0, none⟩ = some (.int .i64 a) := (hb1.cell (p := ⟨w.heap.size, 0, none⟩) (by simp <;> omega)).trans (by go_simp); replace k1 : w1.cell? ⟨w.heap.size, 1, none⟩ = some (.int .i64 b) := (hb1.cell (p := ⟨w.heap.size, 1, none⟩) (by simp <;> omega)).trans (by go_simp)
  have z1 := hb1.size; (try simp at z1)
  have y0 : w.heap.size < w1.heap.size := by omega
  have gg : Below w.heap.size w w1 := (by repeat' (first | (with_reducible exact Below.refl _ _) | (with_reducible assumption) | (with_reducible refine Below.drew ?_) | (with_reducible refine below_drewN ?_ _) | (with_reducible refine bel_alloc ?_ _) | (with_reducible refine Below.setCell ?_ ?_ _) | (with_reducible refine bel_call ?_ (by assumption)) | (simp <;> omega)))
  clear hb1
  go_wp2_with fail
  refine wp_loop_rounds 8 ?_
  rw [rounds_succ]; go_wp2_with fail
  rw [rounds_succ]; go_wp2_with fail
  rw [rounds_succ]; go_wp2_with fail
  rw [rounds_succ]; go_wp2_with fail
  rw [rounds_succ]; go_wp2_with fail
  rw [rounds_succ]; go_wp2_with fail
  rw [rounds_succ]; go_wp2_with fail
  rw [rounds_succ]; go_wp2_with fail
  go_ret2
  refine ⟨_, rfl, ?_, (by repeat' (first | (with_reducible exact Below.refl _ _) | (with_reducible assumption) | (with_reducible refine Below.drew ?_) | (with_reducible refine below_drewN ?_ _) | (with_reducible refine bel_alloc ?_ _) | (with_reducible refine Below.setCell ?_ ?_ _) | (with_reducible refine bel_call ?_ (by assumption)) | (simp <;> omega)))⟩
  rw [← bytesL2_eq a b hbd.1]
  exact World.ownsRow_lit w1 _ 9 (by omega) (by simp [maxLen]) (by simp)
end Hlc
end Go.Proofs.Ytogooghigeemaaa
