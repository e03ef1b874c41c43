/- package bloom, and the document's answer: the hash. -/
import Derived.Test.YtmojbamloanleaaKit
import Derived.Test.YtmojbamloanleaaRows
set_option linter.unusedVariables false
set_option linter.unusedSimpArgs false
namespace Go.Proofs.Ytmojbamloanleaa
open Go.RowKit
namespace Bloom
/-- one round of the hash -/
def hstep (h c : Int) : Int := IntKind.u64.wrap (bits .xor .u64 h c * 1099511628211)
def hashF (l : List Int) : Int := l.foldl hstep 14695981039346656037
theorem hashF_snoc {l : List Int} {k : Nat} {x : Int} (h : l[k]? = some x) : hashF (l.take (k + 1)) = hstep (hashF (l.take k)) x := by
  unfold hashF
  rw [take_snoc h, List.foldl_append]
  rfl

set_option maxHeartbeats 400000 in
theorem hash_any (v : Value) (l : List Int) (w : World) (h : IsB w v l) :
    Calls Try.prog 98 #[v] w fun e w' => e = .returned (.int .u64 (hashF l)) ∧ w = w' := by
  have hm := h.max
  obtain ⟨ao, cap, rfl, _, _, _⟩ := h.form
  have HB := Lib.hid h
  clear h
  go_enter Try.func98, Try.ntmps98
  go_wp2_with fail
  go_loop [3, 8] (fun x i => ∃ k : Nat, k ≤ l.length ∧ i = .int .i64 k ∧ x = .int .u64 (hashF (l.take k))) (fun _ i => l.length - (intOf i).toNat)
  case atStart => exact ⟨0, Nat.zero_le _, rfl, rfl⟩
  case round =>
    obtain ⟨k, hk, rfl, rfl⟩ := hrel
    by_cases hlt : k < l.length
    · obtain ⟨b, o, x, rfl, hb, hx, hc, hlo, hhi⟩ := HB.out.at_ hlt
      go_wp2_with fail
      go_round
      case rel => exact ⟨k + 1, by omega, by go_num, by rw [hashF_snoc hx.out]; rfl⟩
      case measure => simp [intOf]; omega
    · go_wp2_with fail
      go_ret
      exact ⟨by rw [List.take_of_length_le (by omega)]; rfl, rfl⟩

set_option maxHeartbeats 400000 in
theorem rHash_any (v : Value) (l : List Int) (w : World) (h : IsB w v l) :
    Calls Try.prog 96 #[v] w fun e w' => e = .returned (.int .u64 (hashF l)) ∧ w = w' := by
  have hm := h.max
  obtain ⟨ao, cap, rfl, _, _, _⟩ := h.form
  have HB := Lib.hid h
  clear h
  go_enter Try.func96, Try.ntmps96
  go_wp2_with fail
  go_loop [3, 4] (fun x i => ∃ k : Nat, k ≤ l.length ∧ i = .int .i64 k ∧ x = .int .u64 (hashF (l.take k))) (fun _ i => l.length - (intOf i).toNat)
  case atStart => exact ⟨0, Nat.zero_le _, rfl, rfl⟩
  case round =>
    obtain ⟨k, hk, rfl, rfl⟩ := hrel
    by_cases hlt : k < l.length
    · obtain ⟨b, o, x, rfl, hb, hx, hc, hlo, hhi⟩ := HB.out.at_ hlt
      go_wp2_with fail
      go_round
      case rel => exact ⟨k + 1, by omega, by go_num, by rw [hashF_snoc hx.out]; rfl⟩
      case measure => simp [intOf]; omega
    · go_wp2_with fail
      go_ret
      exact ⟨by rw [List.take_of_length_le (by omega)]; rfl, rfl⟩
end Bloom
end Go.Proofs.Ytmojbamloanleaa
