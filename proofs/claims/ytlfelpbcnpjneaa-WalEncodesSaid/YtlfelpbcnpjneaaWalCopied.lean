/- wal's statements: a batch in new memory. -/
import Derived.Test.YtlfelpbcnpjneaaWalCopy
import Derived.Test.YtlfelpbcnpjneaaWalOwn
namespace Go.Proofs.Ytlfelpbcnpjneaa
open Go.RowKit
namespace Wal
set_option maxRecDepth 100000 in
set_option maxHeartbeats 2000000 in
theorem copied_any (seq : Nat) (ov : Value) (l : List Opr) (w : World) (h : IsOps w ov l) (hl : l.length * 56 ≤ 140737488355328) (hs : ∀ x ∈ l, x.2.1.length ≤ 140737488355328 ∧ x.2.2.length ≤ 140737488355328) :
    Calls Try.prog 7 #[.agg #[.int .u64 seq, ov]] w fun e w' => ∃ v, e = .returned (.agg #[.int .u64 seq, v]) ∧ OwnOps w' w.heap.size v l ∧ Below w.heap.size w w' := by
  obtain ⟨ao, cap, rfl, hnc, hcap, -⟩ := h.form
  have HB := Lib.hid h
  have HSZ := Lib.hid hs
  clear h hs
  go_enter Try.func7, Try.ntmps7
  go_wp2_with fail
  refine (copiedOps_any _ l _ (IsL.alloc opR_stays (IsL.alloc opR_stays (IsL.alloc opR_stays HB.out _) _) _) hl HSZ.out).mono ?_
  unfold CopyPost
  rintro e w5 ⟨v, rfl, hv, g5⟩
  replace k0 : w5.cell? ⟨w.heap.size + 1, 0, none⟩ = some (.int .u64 0) := (g5.cell (p := ⟨w.heap.size + 1, 0, none⟩) (by simp <;> omega)).trans (by go_simp); replace k0f : w5.frozen? ⟨w.heap.size + 1, 0, none⟩ = false := (g5.frozen (p := ⟨w.heap.size + 1, 0, none⟩) (by simp <;> omega)).trans (by go_simp); replace k1 : w5.cell? ⟨w.heap.size + 1, 1, none⟩ = some (.slice none 0 0) := (g5.cell (p := ⟨w.heap.size + 1, 1, none⟩) (by simp <;> omega)).trans (by go_simp); replace k1f : w5.frozen? ⟨w.heap.size + 1, 1, none⟩ = false := (g5.frozen (p := ⟨w.heap.size + 1, 1, none⟩) (by simp <;> omega)).trans (by go_simp); replace k2 : w5.cell? ⟨w.heap.size + 2, 0, none⟩ = some (.int .u64 seq) := (g5.cell (p := ⟨w.heap.size + 2, 0, none⟩) (by simp <;> omega)).trans (by go_simp); replace k2f : w5.frozen? ⟨w.heap.size + 2, 0, none⟩ = false := (g5.frozen (p := ⟨w.heap.size + 2, 0, none⟩) (by simp <;> omega)).trans (by go_simp); replace k3 : w5.cell? ⟨w.heap.size + 2, 1, none⟩ = some (.slice none 0 0) := (g5.cell (p := ⟨w.heap.size + 2, 1, none⟩) (by simp <;> omega)).trans (by go_simp); replace k3f : w5.frozen? ⟨w.heap.size + 2, 1, none⟩ = false := (g5.frozen (p := ⟨w.heap.size + 2, 1, none⟩) (by simp <;> omega)).trans (by go_simp)
  have z5 := g5.size
  simp at z5
  have HV := Lib.hid hv
  have G5 := Lib.hid (bel_call (bel_alloc (bel_alloc (bel_alloc (Below.refl _ w) _) _) _) g5)
  obtain ⟨xs, hxs, -⟩ := hv
  obtain ⟨vo, vcap, rfl, -, -, -, -⟩ := own_form hxs
  clear hxs g5
  go_wp2_with fail
  refine bodyPost_ret (v := .agg #[.int .u64 seq, .slice vo l.length vcap]) (by simp [results, Try.results7, go_sem]; go_simp) rfl ⟨_, rfl, ?_, ?_⟩
  · have h0 : w.heap.size + 3 ≤ w5.heap.size := by omega
    have h1 : OwnOps w5 (w.heap.size + 3) (.slice vo l.length vcap) l := by have := HV.out; simpa using this
    have h2 := h1.set (p := ⟨w.heap.size + 1 + 1, 1, none⟩) (by simp only; omega) (by simp only; omega) (.slice vo l.length vcap)
    have h3 := h2.set (p := ⟨w.heap.size + 1, 0, none⟩) (by simp only; omega) (by simp; omega) (.int .u64 seq)
    exact (h3.set (p := ⟨w.heap.size + 1, 1, none⟩) (by simp only; omega) (by simp; omega) (.slice vo l.length vcap)).mono (by omega)
  · exact ((G5.out.setCell (p := ⟨w.heap.size + 1 + 1, 1, none⟩) (by simp only; omega) _).setCell (p := ⟨w.heap.size + 1, 0, none⟩) (by simp only; omega) _).setCell (p := ⟨w.heap.size + 1, 1, none⟩) (by simp only; omega) _
end Wal
end Go.Proofs.Ytlfelpbcnpjneaa
