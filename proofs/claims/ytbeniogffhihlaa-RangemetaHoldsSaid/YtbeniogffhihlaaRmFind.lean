/- rangemeta: the closures; find. -/
import Derived.Test.YtbeniogffhihlaaRmIdx
set_option linter.unusedVariables false
set_option linter.unusedSimpArgs false
namespace Go.Proofs.Ytbeniogffhihlaa
open Go.RowKit
namespace Rm
set_option maxRecDepth 100000 in
set_option maxHeartbeats 1000000 in
theorem findC_any (fv tv kv : Value) (id gen : Int) (f t k : List Int) (kb : Nat) (w : World) (hf : IsB w fv f) (ht : IsB w tv t) (hk : IsB w kv k) (hc : w.cell? ⟨kb, 0, none⟩ = some kv) (hkb : kb < w.heap.size) :
    Calls Try.prog 78 #[.agg #[.int .i64 id, fv, tv, .int .i64 gen], .pointer (some ⟨kb, 0, none⟩)] w (Ret (.bool (holdsB (f, t) k)) w) := by
  obtain ⟨fo, fc, rfl, -, -, -⟩ := hf.form
  obtain ⟨to, tc, rfl, -, -, -⟩ := ht.form
  obtain ⟨ko, kc, rfl, -, -, -⟩ := hk.form
  have HC := Lib.hid (holds_any _ _ _ f t k _ (hf.alloc (.cells #[.int .i64 id, .slice fo f.length fc, .slice to t.length tc, .int .i64 gen] 39)) (ht.alloc (.cells #[.int .i64 id, .slice fo f.length fc, .slice to t.length tc, .int .i64 gen] 39)) (hk.alloc (.cells #[.int .i64 id, .slice fo f.length fc, .slice to t.length tc, .int .i64 gen] 39)))
  clear hf ht hk
  go_enter Try.func78, Try.ntmps78
  go_wp2_with fail
  refine HC.out.mono ?_
  rintro e w1 ⟨rfl, hb⟩
  have GG : Hid (Below w.heap.size w w1) := Lib.hid (bel_call (bel_alloc (Below.refl _ w) _) hb)
  clear hb
  go_wp2_with fail
  go_ret
  exact ⟨rfl, GG.out⟩
set_option maxRecDepth 100000 in
set_option maxHeartbeats 1000000 in
theorem namedC_any (fv tv : Value) (id gen n : Int) (f t : List Int) (nb : Nat) (w : World) (hf : IsB w fv f) (ht : IsB w tv t) (hc : w.cell? ⟨nb, 0, none⟩ = some (.int .i64 n)) (hnb : nb < w.heap.size) :
    Calls Try.prog 43 #[.agg #[.int .i64 id, fv, tv, .int .i64 gen], .pointer (some ⟨nb, 0, none⟩)] w (Ret (.bool (id == n)) w) := by
  obtain ⟨fo, fc, rfl, -, -, -⟩ := hf.form
  obtain ⟨to, tc, rfl, -, -, -⟩ := ht.form
  clear hf ht
  go_enter Try.func43, Try.ntmps43
  go_wp2_with fail
  go_ret
  exact ⟨rfl, bel_alloc (Below.refl _ w) _⟩
set_option maxRecDepth 100000 in
set_option maxHeartbeats 1000000 in
theorem wrongC_any (fv tv : Value) (id gen : Int) (f t : List Int) (w : World) (hf : IsB w fv f) (ht : IsB w tv t) :
    Calls Try.prog 63 #[.agg #[.int .i64 id, fv, tv, .int .i64 gen]] w (Ret (.bool (!rightB (id, f, t, gen))) w) := by
  obtain ⟨fo, fc, rfl, -, -, -⟩ := hf.form
  obtain ⟨to, tc, rfl, -, -, -⟩ := ht.form
  have HC := Lib.hid (right_any _ _ id gen f t _ (hf.alloc (.cells #[.int .i64 id, .slice fo f.length fc, .slice to t.length tc, .int .i64 gen] 39)) (ht.alloc (.cells #[.int .i64 id, .slice fo f.length fc, .slice to t.length tc, .int .i64 gen] 39)))
  clear hf ht
  go_enter Try.func63, Try.ntmps63
  go_wp2_with fail
  refine HC.out.mono ?_
  rintro e w1 ⟨rfl, hb⟩
  have GG : Hid (Below w.heap.size w w1) := Lib.hid (bel_call (bel_alloc (Below.refl _ w) _) hb)
  clear hb
  go_wp2_with fail
  go_ret
  exact ⟨rfl, GG.out⟩
end Rm
end Go.Proofs.Ytbeniogffhihlaa
