/- wal: batches of the call's own. -/
import Derived.Test.YtlfelpbcnpjneaaWalOwn
import Derived.Test.YtlfelpbcnpjneaaWalSame
import Derived.Test.YtlfelpbcnpjneaaWalPlain
namespace Go.Proofs.Ytlfelpbcnpjneaa
open Go.RowKit
namespace Wal
open Codec
def OwnBats (w : World) (base : Nat) (v : Value) (l : List Bat) : Prop :=
  ∃ xs, w.ownsRow base 25 2 v l.length xs ∧ ∀ i x, l[i]? = some x → ∃ ov, xs[i * 2]? = some (.int .u64 x.1) ∧ xs[i * 2 + 1]? = some ov ∧ OwnOps w base ov x.2 ∧ x.1 < 18446744073709551616
theorem OwnBats.nil (w : World) (base : Nat) : OwnBats w base (.slice none 0 0) [] := ⟨[], World.ownsRow_nil _ _ _ _, fun i x h => by simp at h⟩
theorem OwnBats.below {w w' : World} {base : Nat} {v : Value} {l : List Bat} (h : OwnBats w base v l) (hb : Below w.heap.size w w') : OwnBats w' base v l := by
  obtain ⟨xs, h1, h2⟩ := h
  refine ⟨xs, own_below h1 hb, fun i x hx => ?_⟩
  obtain ⟨ov, k1, k2, k3, k4⟩ := h2 i x hx
  exact ⟨ov, k1, k2, k3.below hb, k4⟩
theorem OwnBats.mono {w : World} {base b' : Nat} {v : Value} {l : List Bat} (h : OwnBats w base v l) (hb : b' ≤ base) : OwnBats w b' v l := by
  obtain ⟨xs, h1, h2⟩ := h
  refine ⟨xs, own_mono h1 hb, fun i x hx => ?_⟩
  obtain ⟨ov, k1, k2, k3, k4⟩ := h2 i x hx
  exact ⟨ov, k1, k2, k3.mono hb, k4⟩
theorem OwnBats.isBats {w : World} {base : Nat} {v : Value} {l : List Bat} (h : OwnBats w base v l) : IsBats w v l := by
  obtain ⟨xs, h1, h2⟩ := h
  obtain ⟨ao, cap, rfl, hnc, hcap, hnone, hsome⟩ := own_form h1
  refine ⟨ao, cap, rfl, hnc, by unfold maxLen; omega, fun hn => ⟨List.eq_nil_of_length_eq_zero (hnone hn).1, (hnone hn).2⟩, fun i x hx => ?_⟩
  obtain ⟨ov, k1, k2, k3, k4⟩ := h2 i x hx
  obtain ⟨g, rfl, hg, hgw, c0⟩ := own_cell h1 k1
  obtain ⟨g1, e1, -, -, c1⟩ := own_cell h1 k2
  cases e1
  refine ⟨g, 0, [.int .u64 x.1, ov], rfl, hgw, rfl, fun j u hu => ?_, ov, rfl, k3.isOps, k4⟩
  rw [Nat.zero_add]
  match j, hu with
  | 0, hu => cases hu; exact c0
  | 1, hu => cases hu; exact c1
/-- rows of other types stay where a row turns -/
theorem OwnOps.kept {w w' : World} {base base' n : Nat} {v u : Value} {l : List Opr} {e : TypeId} {size : Nat} {xs : List Value} (h : OwnOps w base v l) (k : w.ownsRow base' e size u n xs) (hg : w.grownBy w' u.ownBlock) (h1 : e ≠ 5) (h2 : e ≠ 43) : OwnOps w' base v l := by
  obtain ⟨ys, k1, k2⟩ := h
  refine ⟨ys, k1.kept hg (own_own_ne k1 k (fun he => h2 he.symm)), fun i x hx => ?_⟩
  obtain ⟨kv, vv, m1, m2, m3, m4, m5⟩ := k2 i x hx
  exact ⟨kv, vv, m1, m2, m3, m4.kept hg (ownS_row_ne m4 k (fun he => h1 he.symm)), m5.kept hg (ownS_row_ne m5 k (fun he => h1 he.symm))⟩
/-- one more -/
theorem OwnBats.snoc {w w' : World} {base : Nat} {v v' : Value} {l : List Bat} {s : Nat} {ol : List Opr} {ov : Value} {xs : List Value}
    (h1 : w.ownsRow base 25 2 v l.length xs) (h2 : ∀ i x, l[i]? = some x → ∃ ov, xs[i * 2]? = some (.int .u64 x.1) ∧ xs[i * 2 + 1]? = some ov ∧ OwnOps w base ov x.2 ∧ x.1 < 18446744073709551616)
    (ho : OwnOps w base ov ol) (hs : s < 18446744073709551616) (h' : w'.ownsRow base 25 2 v' (l.length + 1) (xs ++ [.int .u64 s, ov])) (hg : w.grownBy w' v.ownBlock) : OwnBats w' base v' (l ++ [(s, ol)]) := by
  have hl : xs.length = l.length * 2 := h1.1
  have keep : ∀ u m, OwnOps w base u m → OwnOps w' base u m := fun u m h => h.kept h1 hg (by decide) (by decide)
  refine ⟨_, by rw [List.length_append]; exact h', fun i y hy => ?_⟩
  rcases Nat.lt_or_ge i l.length with hi | hi
  · rw [List.getElem?_append_left hi] at hy
    obtain ⟨ov', k1, k2, k3, k4⟩ := h2 i y hy
    exact ⟨ov', by rw [List.getElem?_append_left (by omega)]; exact k1, by rw [List.getElem?_append_left (by omega)]; exact k2, keep _ _ k3, k4⟩
  · rw [List.getElem?_append_right hi] at hy
    have hi0 : i = l.length := by
      rcases Nat.lt_or_ge (i - l.length) 1 with h | h
      · omega
      · rw [List.getElem?_eq_none (by simpa using h)] at hy; cases hy
    subst hi0
    simp only [Nat.sub_self, List.getElem?_cons_zero, Option.some.injEq] at hy
    subst hy
    exact ⟨ov, by rw [List.getElem?_append_right (by omega), hl, Nat.sub_self]; rfl, by rw [List.getElem?_append_right (by omega), hl, show l.length * 2 + 1 - l.length * 2 = 1 from by omega]; rfl, keep _ _ ho, hs⟩
theorem infoBat : (Try.prog.info? 25).map (fun i => (i.zero, i.size, i.bytes)) = some (some (.agg #[.int .u64 0, .slice none 0 0]), 2, 32) := by kernel_rfl
/-- what reading all answers -/
def rep (l : List Int) : List Bat × Nat × Int := repF (l.length + 1) l 0
def RepPost (l : List Int) (w : World) (e : Ending) (w' : World) : Prop :=
  ∃ v, e = .returned (.tuple #[v, .int .i64 (rep l).2.1, .int .i64 (rep l).2.2]) ∧ OwnBats w' w.heap.size v (rep l).1 ∧ Below w.heap.size w w'
theorem rdRes_ok {f b : List Int} (h : (rdRes f b).2.2 = true) : (encF (rdRes f b).1 (rdRes f b).2.1).2 = 0 := by
  unfold rdRes at h ⊢
  by_cases h1 : (prOps b).2 = true
  · rw [if_pos h1] at h; cases h
  · rw [if_neg h1] at h ⊢
    simp only [decide_eq_true_eq] at h
    exact h.1
/-- what holds in the loop of Replay -/
def repJ (l : List Int) (at_ nx : Nat) (bats : List Bat) : Prop :=
  at_ ≤ l.length ∧ bats.length ≤ at_ ∧ nx < 18446744073709551616 ∧ (nx = 0 ↔ bats = []) ∧ (∀ x, bats.getLast? = some x → nx = x.1 + x.2.length) ∧ ∃ f, l.length - at_ < f ∧ rep l = (bats ++ (repF f (l.drop at_) nx).1, at_ + (repF f (l.drop at_) nx).2.1, (repF f (l.drop at_) nx).2.2)
theorem repJ_start (l : List Int) : repJ l 0 0 [] := ⟨by omega, by simp, by omega, by simp, fun x h => by simp at h, l.length + 1, by omega, by simp [rep]⟩
theorem repJ_end {l : List Int} {at_ nx : Nat} {bats : List Bat} (h : repJ l at_ nx bats) (he : ¬ at_ < l.length) : rep l = (bats, at_, 0) := by
  obtain ⟨h1, -, -, -, -, f, h2, h3⟩ := h
  obtain ⟨g, rfl⟩ : ∃ g, f = g + 1 := ⟨f - 1, by omega⟩
  rw [List.drop_eq_nil_of_le (by omega), repF, if_pos rfl] at h3
  simpa using h3
theorem repJ_bad {l : List Int} {at_ nx : Nat} {bats : List Bat} (h : repJ l at_ nx bats) (hl : at_ < l.length) (he : (takeFrameF (l.drop at_)).2.2.2 ≠ 0) : rep l = (bats, at_, (takeFrameF (l.drop at_)).2.2.2) := by
  obtain ⟨h1, -, -, -, -, f, h2, h3⟩ := h
  obtain ⟨g, rfl⟩ : ∃ g, f = g + 1 := ⟨f - 1, by omega⟩
  rw [repF, if_neg (by intro h; have := congrArg List.length h; rw [List.length_drop] at this; simp at this; omega), if_pos he] at h3
  simpa using h3
theorem repJ_form {l : List Int} {at_ nx : Nat} {bats : List Bat} (h : repJ l at_ nx bats) (hl : at_ < l.length) (he : (takeFrameF (l.drop at_)).2.2.2 = 0)
    (hi : (rdRes ((l.drop at_).take (takeFrameF (l.drop at_)).2.2.1.toNat) (takeFrameF (l.drop at_)).2.1).2.2 = false) : rep l = (bats, at_, 63) := by
  obtain ⟨h1, -, -, -, -, f, h2, h3⟩ := h
  obtain ⟨g, rfl⟩ : ∃ g, f = g + 1 := ⟨f - 1, by omega⟩
  rw [repF, if_neg (by intro h; have := congrArg List.length h; rw [List.length_drop] at this; simp at this; omega), if_neg (by simpa using he), if_pos hi] at h3
  simpa using h3
theorem repJ_seq {l : List Int} {at_ nx : Nat} {bats : List Bat} (h : repJ l at_ nx bats) (hl : at_ < l.length) (he : (takeFrameF (l.drop at_)).2.2.2 = 0)
    (hi : (rdRes ((l.drop at_).take (takeFrameF (l.drop at_)).2.2.1.toNat) (takeFrameF (l.drop at_)).2.1).2.2 = true)
    (hs : 0 < nx ∧ (rdRes ((l.drop at_).take (takeFrameF (l.drop at_)).2.2.1.toNat) (takeFrameF (l.drop at_)).2.1).1 ≠ nx) : rep l = (bats, at_, 61) := by
  obtain ⟨h1, -, -, -, -, f, h2, h3⟩ := h
  obtain ⟨g, rfl⟩ : ∃ g, f = g + 1 := ⟨f - 1, by omega⟩
  rw [repF, if_neg (by intro h; have := congrArg List.length h; rw [List.length_drop] at this; simp at this; omega), if_neg (by simpa using he), if_neg (by rw [hi]; decide), if_pos hs] at h3
  simpa using h3
theorem repJ_step {l : List Int} (hr : Rng l) {at_ nx : Nat} {bats : List Bat} (h : repJ l at_ nx bats) (hl : at_ < l.length) (he : (takeFrameF (l.drop at_)).2.2.2 = 0)
    (hi : (rdRes ((l.drop at_).take (takeFrameF (l.drop at_)).2.2.1.toNat) (takeFrameF (l.drop at_)).2.1).2.2 = true)
    (hs : ¬ (0 < nx ∧ (rdRes ((l.drop at_).take (takeFrameF (l.drop at_)).2.2.1.toNat) (takeFrameF (l.drop at_)).2.1).1 ≠ nx)) :
    repJ l (at_ + (takeFrameF (l.drop at_)).2.2.1.toNat) ((rdRes ((l.drop at_).take (takeFrameF (l.drop at_)).2.2.1.toNat) (takeFrameF (l.drop at_)).2.1).1 + (rdRes ((l.drop at_).take (takeFrameF (l.drop at_)).2.2.1.toNat) (takeFrameF (l.drop at_)).2.1).2.1.length)
      (bats ++ [((rdRes ((l.drop at_).take (takeFrameF (l.drop at_)).2.2.1.toNat) (takeFrameF (l.drop at_)).2.1).1, (rdRes ((l.drop at_).take (takeFrameF (l.drop at_)).2.2.1.toNat) (takeFrameF (l.drop at_)).2.1).2.1)]) := by
  obtain ⟨h1, hb, -, -, -, f, h2, h3⟩ := h
  obtain ⟨-, -, -, c4, c5, -, -⟩ := takeFrameF_canon (hr.drop at_) (k := (takeFrameF (l.drop at_)).1) (b := (takeFrameF (l.drop at_)).2.1) (n := (takeFrameF (l.drop at_)).2.2.1) (by rw [← he])
  rw [List.length_drop] at c4
  obtain ⟨g, rfl⟩ : ∃ g, f = g + 1 := ⟨f - 1, by omega⟩
  have hok := encF_ok (rdRes_ok hi)
  obtain ⟨-, o2, o3, -, o5, o6, -⟩ := hok
  rw [repF, if_neg (by intro h; have := congrArg List.length h; rw [List.length_drop] at this; simp at this; omega), if_neg (by simpa using he), if_neg (by rw [hi]; decide), if_neg hs, List.drop_drop] at h3
  refine ⟨by omega, by rw [List.length_append]; simp; omega, by omega, by simp; omega, fun x hx => ?_, g, by omega, by rw [h3]; simp [Nat.add_assoc]⟩
  rw [List.getLast?_append] at hx
  simp at hx
  subst hx
  rfl
end Wal
end Go.Proofs.Ytlfelpbcnpjneaa
