/- memtable: plain: lists in order with the same members; what putting adds. -/
import Derived.Test.YtgkgfghmpimaoaaMt15
set_option linter.unusedVariables false
set_option linter.unusedSimpArgs false
namespace Go.Proofs.Ytgkgfghmpimaoaa
namespace Mt
theorem cmpE_irr (a : En) : ¬ cmpE a a < 0 := by rw [cmpE_zero.2 ⟨rfl, rfl⟩]; decide
theorem asc_ext : ∀ (l m : List En), Asc l → Asc m → (∀ x, x ∈ l ↔ x ∈ m) → l = m
  | [], [], _, _, _ => rfl
  | [], y :: m, _, _, h => absurd ((h y).2 (List.mem_cons_self ..)) (by simp)
  | x :: l, [], _, _, h => absurd ((h x).1 (List.mem_cons_self ..)) (by simp)
  | x :: l, y :: m, h1, h2, h => by
    have c1 := List.pairwise_cons.1 h1
    have c2 := List.pairwise_cons.1 h2
    have hxy : x = y := by
      rcases List.mem_cons.1 ((h x).1 (List.mem_cons_self ..)) with e | e
      · exact e
      · rcases List.mem_cons.1 ((h y).2 (List.mem_cons_self ..)) with e2 | e2
        · exact e2.symm
        · exact absurd (cmpE_trans (c1.1 y e2) (c2.1 x e)) (cmpE_irr x)
    subst hxy
    rw [asc_ext l m c1.2 c2.2 (fun z => ?_)]
    constructor
    · intro hz
      rcases List.mem_cons.1 ((h z).1 (List.mem_cons_of_mem _ hz)) with e | e
      · subst e; exact absurd (c1.1 z hz) (cmpE_irr z)
      · exact e
    · intro hz
      rcases List.mem_cons.1 ((h z).2 (List.mem_cons_of_mem _ hz)) with e | e
      · subst e; exact absurd (c2.1 z hz) (cmpE_irr z)
      · exact e
/-- entries that are the same key's same version -/
def Alike (x y : En) : Prop := x.1 = y.1 ∧ x.2.1 = y.2.1
theorem putF_mem (hs : List Int) (P : Pl) (x : En) (hne : ∀ y ∈ P.map (·.1), ¬ Alike y x) (z : En) : z ∈ (putF hs P x).map (·.1) ↔ z ∈ P.map (·.1) ∨ (z = x ∧ mayB x = true) := by
  unfold putF putN
  cases hm : mayB x with
  | false =>
    have hc : putCF P x = 50 := by unfold putCF putC; rw [if_pos hm]
    rw [hc, if_neg (by decide)]
    simp
  | true =>
    have ht : twiceB (P.map (·.1)) (posF (P.map (·.1)) x.1 x.2.1) x = false := by
      unfold twiceB
      split
      · rename_i y hy
        have := hne y (List.mem_of_getElem? hy)
        rw [Bool.and_eq_false_iff]
        by_cases h1 : y.2.1 = x.2.1
        · exact .inr (decide_eq_false fun h2 => this ⟨h2, h1⟩)
        · exact .inl (beq_eq_false_iff_ne.2 h1)
      · rfl
    have hc : putCF P x = 0 := by unfold putCF putC; rw [if_neg (by rw [hm]; decide), if_neg (by rw [ht]; decide)]
    rw [hc, if_pos rfl]
    simp only [List.map_append, List.map_cons, List.mem_append, List.mem_cons, and_true]
    constructor
    · rintro (h | h | h)
      · exact .inl (by rw [List.map_take] at h; exact List.mem_of_mem_take h)
      · exact .inr h
      · exact .inl (by rw [List.map_drop] at h; exact List.mem_of_mem_drop h)
    · rintro (h | h)
      · rw [← List.take_append_drop (posF (P.map (·.1)) x.1 x.2.1) (P.map (·.1)), List.mem_append] at h
        rcases h with h | h
        · exact .inl (by rw [List.map_take]; exact h)
        · exact .inr (.inr (by rw [List.map_drop]; exact h))
      · exact .inr (.inl h)
end Mt
end Go.Proofs.Ytgkgfghmpimaoaa
