/- codec: TakeKeyText. codec: the walk of TakeKeyText. codec: the document's TakeKeyText. -/
import Derived.Test.YtmojbamloanleaaBytesFn
set_option linter.unusedVariables false
set_option linter.unusedSimpArgs false
namespace Go.Proofs.Ytmojbamloanleaa
open Go.RowKit
namespace Codec
/-- reading a key's text off the front: text, how many bytes, errno -/
def tkL : List Int → List Int × Int × Int
  | [] => ([], 0, 10)
  | [x] => ([], 0, 10)
  | x :: y :: r =>
    if x = 0 then
      if y = 1 then ([], 2, 0) else if y = 255 then (if (tkL r).2.2 = 0 then (0 :: (tkL r).1, (tkL r).2.1 + 2, 0) else ([], 0, (tkL r).2.2)) else ([], 0, 11)
    else if (tkL (y :: r)).2.2 = 0 then (x :: (tkL (y :: r)).1, (tkL (y :: r)).2.1 + 1, 0) else ([], 0, (tkL (y :: r)).2.2)
/-- a text read behind one that was read -/
def tkOn (out : List Int) (at_ : Int) (t : List Int × Int × Int) : List Int × Int × Int := if t.2.2 = 0 then (out ++ t.1, at_ + t.2.1, 0) else ([], 0, t.2.2)
theorem tkOn_nil {t : List Int × Int × Int} (h : t.2.2 ≠ 0 → t = ([], 0, t.2.2)) : tkOn [] 0 t = t := by
  unfold tkOn
  split
  · rename_i h0
    obtain ⟨a, b, c⟩ := t
    simp only at h0
    subst h0
    simp
  · rename_i h0
    exact (h h0).symm
theorem tkOn_on (a b : List Int) (x y : Int) (t : List Int × Int × Int) : tkOn a x (tkOn b y t) = tkOn (a ++ b) (x + y) t := by
  unfold tkOn
  by_cases h : t.2.2 = 0
  · simp [h]; omega
  · simp [h]
theorem tkL_err : ∀ (l : List Int), (tkL l).2.2 ≠ 0 → tkL l = ([], 0, (tkL l).2.2)
  | [], _ => rfl
  | [_], _ => rfl
  | x :: y :: r, h => by
    have e : tkL (x :: y :: r) = if x = 0 then
      if y = 1 then ([], 2, 0) else if y = 255 then (if (tkL r).2.2 = 0 then (0 :: (tkL r).1, (tkL r).2.1 + 2, 0) else ([], 0, (tkL r).2.2)) else ([], 0, 11)
    else if (tkL (y :: r)).2.2 = 0 then (x :: (tkL (y :: r)).1, (tkL (y :: r)).2.1 + 1, 0) else ([], 0, (tkL (y :: r)).2.2) := by rw [tkL]
    generalize tkL (x :: y :: r) = z at *
    subst e
    split at h
    · split at h
      · simp at h
      · split at h
        · split at h
          · simp at h
          · rename_i h1 h2 h3 h4; rw [if_pos h1, if_neg h2, if_pos h3, if_neg h4]
        · rename_i h1 h2 h3; rw [if_pos h1, if_neg h2, if_neg h3]
    · split at h
      · simp at h
      · rename_i h1 h2; rw [if_neg h1, if_neg h2]
theorem tkL_skip : ∀ (s r : List Int), (∀ x ∈ s, x ≠ 0) → r ≠ [] → tkL (s ++ r) = tkOn s s.length (tkL r)
  | [], r, _, _ => (tkOn_nil (tkL_err r)).symm
  | [x], y :: r, h, _ => by
    have hx := h x (by simp)
    show tkL (x :: y :: r) = _
    rw [tkL, if_neg hx]
    unfold tkOn
    simp only [List.singleton_append, List.length_singleton]
    split
    · simp; omega
    · rfl
  | x :: z :: s, y :: r, h, hr => by
    have hx := h x (by simp)
    have ih := tkL_skip (z :: s) (y :: r) (fun a ha => h a (List.mem_cons_of_mem _ ha)) hr
    show tkL (x :: z :: (s ++ y :: r)) = _
    rw [tkL, if_neg hx]
    have e : z :: (s ++ y :: r) = (z :: s) ++ (y :: r) := rfl
    rw [e, ih]
    unfold tkOn
    by_cases h0 : (tkL (y :: r)).2.2 = 0
    · simp [h0]; omega
    · simp [h0]
/-- no zero: too short -/
theorem tkL_none : ∀ (l : List Int), (∀ x ∈ l, x ≠ 0) → tkL l = ([], 0, 10)
  | [], _ => rfl
  | [_], _ => rfl
  | x :: y :: r, h => by
    have hx := h x (by simp)
    have ih := tkL_none (y :: r) (fun a ha => h a (List.mem_cons_of_mem _ ha))
    rw [tkL, if_neg hx, ih]; simp
theorem idxI_none : ∀ {l : List Int} {c : Int}, idxI l c = -1 → ∀ x ∈ l, x ≠ c
  | [], _, _, x, hx => by simp at hx
  | y :: l, c, h, x, hx => by
    simp only [idxI] at h
    split at h
    · omega
    · rename_i hy
      have hr := idxI_rng l c
      split at h
      · rename_i h1
        cases List.mem_cons.1 hx with
        | inl e => subst e; exact hy
        | inr e => exact idxI_none h1 x e
      · omega
theorem idxI_some : ∀ {l : List Int} {c : Int} {n : Nat}, idxI l c = n → l[n]? = some c ∧ ∀ x ∈ l.take n, x ≠ c
  | [], c, n, h => by simp only [idxI] at h; omega
  | y :: l, c, n, h => by
    simp only [idxI] at h
    have hr := idxI_rng l c
    split at h
    · rename_i hy
      have : n = 0 := by omega
      subst this
      exact ⟨by simp [hy], fun x hx => by simp at hx⟩
    · rename_i hy
      split at h
      · omega
      · obtain ⟨m, rfl⟩ : ∃ m, n = m + 1 := ⟨n - 1, by omega⟩
        have ih := idxI_some (l := l) (c := c) (n := m) (by omega)
        refine ⟨by simpa using ih.1, fun x hx => ?_⟩
        rw [List.take_succ_cons] at hx
        cases List.mem_cons.1 hx with
        | inl e => subst e; exact hy
        | inr e => exact ih.2 x e
theorem tkL_rng : ∀ (l : List Int), Rng l → Rng (tkL l).1
  | [], _ => Rng.nil
  | [_], _ => Rng.nil
  | x :: y :: r, h => by
    have h1 := tkL_rng r (fun a ha => h a (by simp [ha]))
    have h2 := tkL_rng (y :: r) (fun a ha => h a (List.mem_cons_of_mem _ ha))
    rw [tkL]
    split
    · split
      · exact Rng.nil
      · split
        · split
          · exact Rng.cons (by omega) h1
          · exact Rng.nil
        · exact Rng.nil
    · split
      · exact Rng.cons (h x (by simp)) h2
      · exact Rng.nil
end Codec
end Go.Proofs.Ytmojbamloanleaa
namespace Go.Proofs.Ytmojbamloanleaa
open Go.RowKit
namespace Codec
def TkPost (l : List Int) (w : World) (e : Ending) (w' : World) : Prop :=
  ∃ v, e = .returned (.tuple #[v, .int .i64 (tkL l).2.1, .int .i64 (tkL l).2.2]) ∧ OwnS w' w.heap.size 5 v (tkL l).1 ∧ Below w.heap.size w w'
theorem ret_tk {v : Value} {t : List Int × Int × Int} {a : List Int} {b c : Int} (h : t = (a, b, c)) : Ending.returned (.tuple #[v, .int .i64 b, .int .i64 c]) = .returned (.tuple #[v, .int .i64 t.2.1, .int .i64 t.2.2]) := by subst h; rfl
end Codec
end Go.Proofs.Ytmojbamloanleaa
namespace Go.Proofs.Ytmojbamloanleaa
open Go.RowKit
namespace Codec
theorem tk_zero (l : List Int) (h : (tkL l).2.2 ≠ 0) : tkOn [] 0 (tkL l) = tkL l := tkOn_nil (tkL_err l)
theorem tk_nil : tkL [] = ([], 0, 10) := by rw [tkL]
theorem tk_one (x : Int) : tkL [x] = ([], 0, 10) := by rw [tkL]
theorem tk_cons {x : Int} (hx : x ≠ 0) (r : List Int) : tkL (x :: r) = tkOn [x] 1 (tkL r) := by
  cases r with
  | nil => rw [tk_nil, tk_one]; rfl
  | cons y r =>
    rw [tkL, if_neg hx]
    unfold tkOn
    by_cases h : (tkL (y :: r)).2.2 = 0
    · rw [if_pos h, if_pos h, Int.add_comm]; rfl
    · rw [if_neg h, if_neg h]
theorem tk_end (r : List Int) : tkL (0 :: 1 :: r) = ([], 2, 0) := by rw [tkL, if_pos rfl, if_pos rfl]
theorem tk_ff (r : List Int) : tkL (0 :: 255 :: r) = tkOn [0] 2 (tkL r) := by
  rw [tkL, if_pos rfl, if_neg (by decide), if_pos rfl]
  unfold tkOn
  by_cases h : (tkL r).2.2 = 0
  · rw [if_pos h, if_pos h, Int.add_comm]; rfl
  · rw [if_neg h, if_neg h]
theorem tk_bad {y : Int} (h1 : y ≠ 1) (h2 : y ≠ 255) (r : List Int) : tkL (0 :: y :: r) = ([], 0, 11) := by
  rw [tkL, if_pos rfl, if_neg h1, if_neg h2]
theorem drop_cons {l : List Int} {k : Nat} {x : Int} (h : l[k]? = some x) : l.drop k = x :: l.drop (k + 1) := by
  obtain ⟨hk, rfl⟩ := List.getElem?_eq_some_iff.1 h
  exact List.drop_eq_getElem_cons hk
theorem tk_none {l : List Int} {w w' : World} {t : List Int × Int × Int} {e : Int} (h : tkL l = ([], 0, e)) (hb : Below w.heap.size w w') : TkPost l w (.returned (.tuple #[.slice none 0 0, .int .i64 0, .int .i64 e])) w' :=
  ⟨_, ret_tk h, by rw [h]; exact ⟨Rng.nil, .inl ⟨rfl, rfl⟩⟩, hb⟩
end Codec
end Go.Proofs.Ytmojbamloanleaa
