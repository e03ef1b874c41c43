/- codec: the document's TakeKeyText. -/
import Derived.Test.YtlolgiphppbcmaaDoorCodecXW
namespace Go.Proofs.YtlolgiphppbcmaaDoor
open Go.RowKit
namespace Codec
theorem tk_zero (l : List Int) (h : (tkL l).2.2 ≠ 0) : tkOn [] 0 (tkL l) = tkL l := tkOn_nil (tkL_err l)
theorem tk_nil : tkL [] = ([], 0, 10) := by rw [tkL]
theorem tk_one (x : Int) : tkL [x] = ([], 0, 10) := by rw [tkL]
theorem tk_cons {x : Int} (hx : x ≠ 0) (r : List Int) : tkL (x :: r) = tkOn [x] 1 (tkL r) := by
  cases r with
  | nil => rw [tk_nil, tk_one]; rfl
  | cons y r =>
    rw [tkL, if_neg hx]
    unfold tkOn
    by_cases h : (tkL (y :: r)).2.2 = 0
    · rw [if_pos h, if_pos h, Int.add_comm]; rfl
    · rw [if_neg h, if_neg h]
theorem tk_end (r : List Int) : tkL (0 :: 1 :: r) = ([], 2, 0) := by rw [tkL, if_pos rfl, if_pos rfl]
theorem tk_ff (r : List Int) : tkL (0 :: 255 :: r) = tkOn [0] 2 (tkL r) := by
  rw [tkL, if_pos rfl, if_neg (by decide), if_pos rfl]
  unfold tkOn
  by_cases h : (tkL r).2.2 = 0
  · rw [if_pos h, if_pos h, Int.add_comm]; rfl
  · rw [if_neg h, if_neg h]
theorem tk_bad {y : Int} (h1 : y ≠ 1) (h2 : y ≠ 255) (r : List Int) : tkL (0 :: y :: r) = ([], 0, 11) := by
  rw [tkL, if_pos rfl, if_neg h1, if_neg h2]
theorem drop_cons {l : List Int} {k : Nat} {x : Int} (h : l[k]? = some x) : l.drop k = x :: l.drop (k + 1) := by
  obtain ⟨hk, rfl⟩ := List.getElem?_eq_some_iff.1 h
  exact List.drop_eq_getElem_cons hk
theorem tk_none {l : List Int} {w w' : World} {t : List Int × Int × Int} {e : Int} (h : tkL l = ([], 0, e)) (hb : Below w.heap.size w w') : TkPost l w (.returned (.tuple #[.slice none 0 0, .int .i64 0, .int .i64 e])) w' :=
  ⟨_, ret_tk h, by rw [h]; exact ⟨Rng.nil, .inl ⟨rfl, rfl⟩⟩, hb⟩
end Codec
end Go.Proofs.YtlolgiphppbcmaaDoor
