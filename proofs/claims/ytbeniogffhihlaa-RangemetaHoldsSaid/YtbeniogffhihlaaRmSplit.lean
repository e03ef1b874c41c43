/- rangemeta: Split's own search. -/
import Derived.Test.YtbeniogffhihlaaRmTab
set_option linter.unusedVariables false
set_option linter.unusedSimpArgs false
namespace Go.Proofs.Ytbeniogffhihlaa
open Go.RowKit
namespace Rm
set_option maxRecDepth 100000 in
set_option maxHeartbeats 2000000 in
theorem named_any (cb tb : Nat) (n : Int) (v : Value) (l : List RangeD) (w : World) (hc : w.cell? ⟨cb, 0, none⟩ = some (.pointer (some ⟨tb, 0, none⟩))) (ht : w.cell? ⟨tb, 0, none⟩ = some v) (hcb : cb < w.heap.size) (htb : tb < w.heap.size) (h : IsRgs w v l) :
    Calls Try.prog 41 #[.int .i64 n, .pointer (some ⟨cb, 0, none⟩)] w (Ret (.int .i64 (idxF (fun x => x.1 == n) l)) w) := by
  obtain ⟨ao, cap, rfl, -, -, -⟩ := h.form
  have hmf : ∀ (fn : Fn) (first cap : Array Value) (w : World), (Instr.makeFunc fn first cap).run Try.prog w = .ok (.func fn first cap) w := fun _ _ _ _ => rfl
  have hcell : (w.alloc (.cells #[.int .i64 n] 3)).cell? ⟨w.heap.size, 0, none⟩ = some (.int .i64 n) := by go_simp
  have HX := Lib.hid (indexFunc_any 43 #[.pointer (some ⟨w.heap.size, 0, none⟩)] (fun x => x.1 == n) _ l _ (h.alloc rgR_stays (.cells #[.int .i64 n] 3)) (enters_of Try.func43 (by kernel_rfl) rfl)
    (fun w' x fv tv hb hf ht => namedC_any fv tv x.1 x.2.2.2 n x.2.1 x.2.2.1 w.heap.size w' hf ht ((hb.cell (p := ⟨w.heap.size, 0, none⟩) (by simp)).trans hcell) (by have := hb.size; simp at this; omega)))
  generalize idxF (fun x => x.1 == n) l = ix at *
  clear h hcell
  go_enter Try.func41, Try.ntmps41
  go_wp2_with fail
  refine HX.out.mono ?_
  rintro e w1 ⟨rfl, hb⟩
  have GW : Hid (Below w.heap.size w w1) := Lib.hid (bel_call (by repeat' (first | (with_reducible exact Below.refl _ _) | (with_reducible assumption) | (with_reducible refine Below.drew ?_) | (with_reducible refine below_drewN ?_ _) | (with_reducible refine bel_alloc ?_ _) | (with_reducible refine Below.setCell ?_ ?_ _) | (with_reducible refine bel_call ?_ (by assumption)) | (simp <;> omega))) hb)
  clear hb
  go_wp2_with fail
  go_ret
  exact ⟨rfl, GW.out⟩
end Rm
end Go.Proofs.Ytbeniogffhihlaa
