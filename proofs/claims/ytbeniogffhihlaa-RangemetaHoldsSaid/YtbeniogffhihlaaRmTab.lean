/- rangemeta: a table: New, Find. -/
import Derived.Test.YtbeniogffhihlaaRmFind2
set_option linter.unusedVariables false
set_option linter.unusedSimpArgs false
namespace Go.Proofs.Ytbeniogffhihlaa
open Go.RowKit
namespace Rm
set_option maxRecDepth 100000 in
set_option maxHeartbeats 2000000 in
theorem tFind_any (tb : Nat) (v kv : Value) (l : List RangeD) (k : List Int) (w : World) (hc : w.cell? ⟨tb, 0, none⟩ = some v) (htb : tb < w.heap.size) (h : IsRgs w v l) (hk : IsB w kv k) (hs : ∀ x ∈ l, x.2.1.length ≤ 140737488355328 ∧ x.2.2.1.length ≤ 140737488355328) :
    Calls Try.prog 17 #[.pointer (some ⟨tb, 0, none⟩), kv] w (OwnP ((findF l k).getD zeroR) w) := by
  obtain ⟨ao, cap, rfl, -, -, -⟩ := h.form
  obtain ⟨ko, kc, rfl, -, -, -⟩ := hk.form
  have HX := Lib.hid (find_any _ _ l k _ (h.alloc rgR_stays (.cells #[.int .i64 0, .slice none 0 0, .slice none 0 0, .int .i64 0] 39)) (hk.alloc (.cells #[.int .i64 0, .slice none 0 0, .slice none 0 0, .int .i64 0] 39)) hs)
  unfold FindP at HX
  generalize (findF l k).getD zeroR = r at *
  obtain ⟨id, f, t, gen⟩ := r
  clear h hk hs
  go_enter Try.func17, Try.ntmps17
  go_wp2_with fail
  refine HX.out.mono ?_
  rintro e w1 ⟨v1, v2, rfl, h1, h2, hb⟩
  have H1 := Lib.hid h1
  have H2 := Lib.hid h2
  obtain ⟨fo1, fc1, rfl, -, -, -, -⟩ := h1.form
  obtain ⟨to1, tc1, rfl, -, -, -, -⟩ := h2.form
  replace k0 : w1.cell? ⟨w.heap.size, 0, none⟩ = some (.int .i64 0) := (hb.cell (p := ⟨w.heap.size, 0, none⟩) (by simp <;> omega)).trans (by go_simp); replace k0f : w1.frozen? ⟨w.heap.size, 0, none⟩ = false := (hb.frozen (p := ⟨w.heap.size, 0, none⟩) (by simp <;> omega)).trans (by go_simp); replace k1 : w1.cell? ⟨w.heap.size, 1, none⟩ = some (.slice none 0 0) := (hb.cell (p := ⟨w.heap.size, 1, none⟩) (by simp <;> omega)).trans (by go_simp); replace k1f : w1.frozen? ⟨w.heap.size, 1, none⟩ = false := (hb.frozen (p := ⟨w.heap.size, 1, none⟩) (by simp <;> omega)).trans (by go_simp); replace k2 : w1.cell? ⟨w.heap.size, 2, none⟩ = some (.slice none 0 0) := (hb.cell (p := ⟨w.heap.size, 2, none⟩) (by simp <;> omega)).trans (by go_simp); replace k2f : w1.frozen? ⟨w.heap.size, 2, none⟩ = false := (hb.frozen (p := ⟨w.heap.size, 2, none⟩) (by simp <;> omega)).trans (by go_simp); replace k3 : w1.cell? ⟨w.heap.size, 3, none⟩ = some (.int .i64 0) := (hb.cell (p := ⟨w.heap.size, 3, none⟩) (by simp <;> omega)).trans (by go_simp); replace k3f : w1.frozen? ⟨w.heap.size, 3, none⟩ = false := (hb.frozen (p := ⟨w.heap.size, 3, none⟩) (by simp <;> omega)).trans (by go_simp)
  have GW : Hid (Below w.heap.size w w1) := Lib.hid (bel_call (by repeat' (first | (with_reducible exact Below.refl _ _) | (with_reducible assumption) | (with_reducible refine Below.drew ?_) | (with_reducible refine below_drewN ?_ _) | (with_reducible refine bel_alloc ?_ _) | (with_reducible refine Below.setCell ?_ ?_ _) | (with_reducible refine bel_call ?_ (by assumption)) | (simp <;> omega))) hb)
  have z1 : w.heap.size < w1.heap.size := by have := hb.size; simp at this; omega
  clear h1 h2 hb
  have hs2 := gb_set (gb_set (gb_set (gb_set (gb_refl w1 (some w.heap.size)) (p := ⟨w.heap.size, 0, none⟩) (.inl rfl) (.int .i64 id)) (p := ⟨w.heap.size, 1, none⟩) (.inl rfl) (.slice fo1 f.length fc1)) (p := ⟨w.heap.size, 2, none⟩) (.inl rfl) (.slice to1 t.length tc1)) (p := ⟨w.heap.size, 3, none⟩) (.inl rfl) (.int .i64 gen)
  have HS2 := Lib.hid hs2
  clear hs2
  go_wp2_with fail
  refine bodyPost_ret (v := .agg #[.int .i64 id, .slice fo1 f.length fc1, .slice to1 t.length tc1, .int .i64 gen]) (by simp [results, Try.results17, go_sem]; go_simp) rfl ⟨_, _, rfl, ?_, ?_, ?_⟩
  · exact ((ownS_away H1.out HS2.out (by simp)).mono (by simp)).alloc _
  · exact ((ownS_away H2.out HS2.out (by simp)).mono (by simp)).alloc _
  · exact ((((GW.out.setCell (p := ⟨w.heap.size, 0, none⟩) (Nat.le_refl _) _).setCell (p := ⟨w.heap.size, 1, none⟩) (Nat.le_refl _) _).setCell (p := ⟨w.heap.size, 2, none⟩) (Nat.le_refl _) _).setCell (p := ⟨w.heap.size, 3, none⟩) (Nat.le_refl _) _).alloc (by simp; omega) _
end Rm
end Go.Proofs.Ytbeniogffhihlaa
