/- rangemeta: Load, List. -/
import Derived.Test.YtbeniogffhihlaaRmTable
set_option linter.unusedVariables false
set_option linter.unusedSimpArgs false
namespace Go.Proofs.Ytbeniogffhihlaa
open Go.RowKit
namespace Rm
set_option maxRecDepth 100000 in
set_option maxHeartbeats 1000000 in
theorem tList_any (tb : Nat) (v : Value) (l : List RangeD) (w : World) (hc : w.cell? ⟨tb, 0, none⟩ = some v) (h : IsRgs w v l) (hl : l.length ≤ 1000) (hs : ∀ x ∈ l, x.2.1.length ≤ 140737488355328 ∧ x.2.2.1.length ≤ 140737488355328) :
    Calls Try.prog 15 #[.pointer (some ⟨tb, 0, none⟩)] w (OwnedP l w) := by
  obtain ⟨ao, cap, rfl, -, -, -⟩ := h.form
  have HC := Lib.hid (owned_any _ l w h hl hs)
  clear h hs
  go_enter Try.func15, Try.ntmps15
  go_wp2_with fail
  refine HC.out.mono ?_
  unfold OwnedP
  rintro e w1 ⟨v1, rfl, h1, h2⟩
  have H1 := Lib.hid h1
  have H2 := Lib.hid h2
  obtain ⟨a1, c1, rfl, -, -, -⟩ := h1.isRgs.form
  clear h1 h2
  go_wp2_with fail
  go_ret
  exact ⟨_, rfl, H1.out, H2.out⟩
def LoadP (l : List RangeD) (w : World) (e : Ending) (w' : World) : Prop :=
  (¬ tableP l → e = .returned (.tuple #[.pointer none, .int .i64 150]) ∧ Below w.heap.size w w') ∧
  (tableP l → ∃ tb v, e = .returned (.tuple #[.pointer (some ⟨tb, 0, none⟩), .int .i64 0]) ∧ w.heap.size ≤ tb ∧ w'.heap[tb]? = some (.cells #[v] 80 (0, 0)) ∧ OwnRgs w' w.heap.size v l ∧ Below w.heap.size w w')
set_option maxRecDepth 100000 in
set_option maxHeartbeats 1000000 in
theorem load_any (v : Value) (l : List RangeD) (w : World) (h : IsRgs w v l) (hs : ∀ x ∈ l, x.2.1.length ≤ 140737488355328 ∧ x.2.2.1.length ≤ 140737488355328) :
    Calls Try.prog 25 #[v] w (LoadP l w) := by
  have HI := Lib.hid (isTable_any v l w h)
  have HB := Lib.hid h
  have HS := Lib.hid hs
  unfold IsTableP at HI
  obtain ⟨ao, cap, rfl, -, -, -⟩ := h.form
  clear h hs
  by_cases ht : tableP l
  · have HT := Lib.hid ht
    have hl : l.length ≤ 1000 := by have := ht.2.1; omega
    clear ht
    go_enter Try.func25, Try.ntmps25
    go_wp2_with fail
    refine HI.out.mono ?_
    rintro e w1 ⟨h1, -, hb⟩
    obtain rfl := h1 HT.out
    have G1 := Lib.hid hb
    have HO := Lib.hid (owned_any _ l w1 (HB.out.below rgR_stays hb) hl HS.out)
    unfold OwnedP at HO
    clear h1 hb
    go_wp2_with fail
    refine HO.out.mono ?_
    rintro e w2 ⟨v1, rfl, h1, h2⟩
    have H1 := Lib.hid h1
    have H2 := Lib.hid h2
    obtain ⟨a1, c1, rfl, -, -, -⟩ := h1.isRgs.form
    clear h1 h2
    have z1 := G1.out.size
    have z2 := H2.out.size
    go_wp2_with fail
    go_ret2
    refine ⟨fun h => absurd HT.out h, fun _ => ⟨_, _, rfl, by omega, heap_alloc_new w2 _, ?_, bel_alloc (bel_call G1.out H2.out) _⟩⟩
    obtain ⟨rs, q1, q2, q3⟩ := H1.out.below ((Below.refl _ w2).alloc (Nat.le_refl _) _)
    exact ⟨rs, q1, own_mono q2 z1, fun r hr => ⟨(q3 r hr).1.mono z1, (q3 r hr).2.1.mono z1, (q3 r hr).2.2⟩⟩
  · have HT := Lib.hid ht
    clear ht
    go_enter Try.func25, Try.ntmps25
    go_wp2_with fail
    refine HI.out.mono ?_
    rintro e w1 ⟨-, h1, hb⟩
    obtain rfl := h1 HT.out
    have G1 := Lib.hid hb
    clear h1 hb
    go_wp2_with fail
    go_ret2
    exact ⟨fun _ => ⟨rfl, G1.out⟩, fun h => absurd h HT.out⟩
end Rm
end Go.Proofs.Ytbeniogffhihlaa
