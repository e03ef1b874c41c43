/- codec: the document's TakeNumber. -/
import Derived.Test.YtlolgiphppbcmaaDoorCodecT
namespace Go.Proofs.YtlolgiphppbcmaaDoor
open Go.RowKit
namespace Codec
theorem v128_split : ∀ (j : Nat) (L : List Int), j ≤ L.length → v128 L = v128 (L.take j) + 128 ^ j * v128 (L.drop j)
  | 0, L, _ => by simp [v128]
  | j + 1, [], h => by simp at h
  | j + 1, x :: L, h => by
    have ih := v128_split j L (by simpa using h)
    simp only [List.take_succ_cons, List.drop_succ_cons, v128, Int.pow_succ]
    rw [ih]
    have : (128 : Int) ^ j * 128 * v128 (L.drop j) = 128 * ((128 : Int) ^ j * v128 (L.drop j)) := by rw [Int.mul_comm ((128 : Int) ^ j) 128, Int.mul_assoc]
    omega
theorem v128_drop_le (j : Nat) (L : List Int) (h : j ≤ L.length) : v128 (L.drop j) ≤ v128 L := by
  have e := v128_split j L h
  have r1 := v128_rng (L.take j)
  have r2 := v128_rng (L.drop j)
  have p : (1 : Int) ≤ 128 ^ j := by exact_mod_cast Nat.one_le_pow j 128 (by decide)
  have : 1 * v128 (L.drop j) ≤ 128 ^ j * v128 (L.drop j) := Int.mul_le_mul_of_nonneg_right p r2.1
  omega
theorem v128_max {l : List Int} {e : Nat} {c : Int} (he : e < 10) (hx : l[e]? = some c) (hc0 : 0 ≤ c) (hc : c < 128) (h9 : e = 9 → c ≤ 1) : v128 (l.take (e + 1)) ≤ 18446744073709551615 := by
  have hlen : (l.take e).length = e := by
    have := (List.getElem?_eq_some_iff.1 hx).1
    rw [List.length_take]; omega
  rw [take_snoc hx, v128_snoc, hlen]
  have r := v128_rng (l.take e)
  rw [hlen] at r
  have p2 : (128 : Int) ^ 9 = 9223372036854775808 := by decide
  by_cases h : e = 9
  · have := h9 h
    subst h
    rw [p2] at r ⊢
    omega
  · have p1 : (128 : Int) ^ (e + 1) ≤ 128 ^ 9 := by exact_mod_cast Nat.pow_le_pow_right (n := 128) (by decide) (show e + 1 ≤ 9 by omega)
    rw [Int.pow_succ] at p1
    have p3 : (128 : Int) ^ e * (c % 128) ≤ 128 ^ e * 127 := Int.mul_le_mul_of_nonneg_left (by omega) (by omega)
    omega
theorem v128_at {L : List Int} {j : Nat} {c : Int} (h : L[j]? = some c) : v128 (L.drop j) = c % 128 + 128 * v128 (L.drop (j + 1)) := by
  obtain ⟨h1, h2⟩ := List.getElem?_eq_some_iff.1 h
  rw [List.drop_eq_getElem_cons h1, h2]
  rfl
def RTPost (l : List Int) (w : World) (e : Ending) (w' : World) : Prop := e = .returned (.tuple #[.int .u64 (takeN l).1, .int .i64 (takeN l).2.1, .int .i64 (takeN l).2.2]) ∧ w = w'
end Codec
end Go.Proofs.YtlolgiphppbcmaaDoor
