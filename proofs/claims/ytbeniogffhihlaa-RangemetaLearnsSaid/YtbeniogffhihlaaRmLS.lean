/- rangemeta: RangemetaLearns, plain: what a table had at any time, and a cache that learns of it. rangemeta: RangemetaLearns: what stands between two steps of the law. rangemeta: RangemetaLearns: more of what stands between two steps. -/
import Derived.Test.YtbeniogffhihlaaRmOk
import Derived.Test.YtbeniogffhihlaaRmHold
import Derived.Test.YtbeniogffhihlaaRmLrn2
import Derived.Test.YtbeniogffhihlaaRegT
set_option linter.unusedVariables false
set_option linter.unusedSimpArgs false
namespace Go.Proofs.Ytbeniogffhihlaa
open Go.RowKit
open PM Rm
theorem le_lt {k m u : List Int} (h1 : lexLt k m = false) (h2 : lexLt k u = true) : lexLt m u = true := by
  rcases lexLt_tri k m with h | rfl | h
  · rw [h1] at h; cases h
  · exact h2
  · exact lexLt_trans h h2
theorem lt_asym {a b : List Int} (h : lexLt a b = true) : lexLt b a = false := by
  rw [Bool.eq_false_iff]
  intro h'
  have := lexLt_trans h h'
  rw [lexLt_irrefl] at this
  cases this
theorem hold_ne {f t k : List Int} (h : holdsB (f, t) k = true) : Ne f t := by
  obtain ⟨h1, h2⟩ := (holds_iff f t k).1 h
  exact h2.imp id fun h2 => le_lt h1 h2
theorem hold_meet {f t g u k : List Int} (h1 : holdsB (f, t) k = true) (h2 : holdsB (g, u) k = true) : meetB (f, t) (g, u) = true := by
  refine (meet_iff f t g u (hold_ne h1) ((ne_iff g u).2 (hold_ne h2))).2 ?_
  obtain ⟨a1, a2⟩ := (holds_iff f t k).1 h1
  obtain ⟨b1, b2⟩ := (holds_iff g u k).1 h2
  have hm : lexLt k (if lexLt f g = true then g else f) = false := by split <;> assumption
  have hu : upT t u = [] ∨ lexLt k (upT t u) = true := by
    unfold upT
    split
    · exact b2
    · split
      · exact a2
      · split
        · exact b2
        · exact a2
  exact hu.imp id fun hu => le_lt hm hu
theorem meet_hold {f t g u : List Int} (h : meetB (f, t) (g, u) = true) : ∃ k, holdsB (f, t) k = true ∧ holdsB (g, u) k = true := by
  have hne : Ne f t ∧ emptyB (g, u) = false := by
    unfold meetB at h
    simp only [Bool.and_eq_true, Bool.not_eq_true'] at h
    exact ⟨(ne_iff f t).1 h.1.1, h.1.2⟩
  have h' := (meet_iff f t g u hne.1 hne.2).1 h
  refine ⟨if lexLt f g = true then g else f, ?_⟩
  rw [holds_iff, holds_iff]
  have hf : lexLt (if lexLt f g = true then g else f) f = false := by
    split
    · exact lt_asym (by assumption)
    · exact lexLt_irrefl f
  have hg : lexLt (if lexLt f g = true then g else f) g = false := by
    split
    · exact lexLt_irrefl g
    · rename_i h; simpa using h
  generalize (if lexLt f g = true then g else f) = m at h' hf hg ⊢
  refine ⟨⟨hf, ?_⟩, hg, ?_⟩
  · by_cases ht : t = []
    · exact .inl ht
    · right
      unfold upT at h'
      rw [if_neg ht] at h'
      split at h'
      · exact h'.resolve_left ht
      · split at h'
        · rcases h' with h' | h'
          · contradiction
          · exact lexLt_trans h' (by assumption)
        · exact h'.resolve_left ht
  · by_cases hu : u = []
    · exact .inl hu
    · right
      unfold upT at h'
      by_cases ht : t = []
      · rw [if_pos ht] at h'
        exact h'.resolve_left hu
      · rw [if_neg ht, if_neg hu] at h'
        by_cases hut : lexLt u t = true
        · rw [if_pos hut] at h'
          exact h'.resolve_left hu
        · rw [if_neg hut] at h'
          exact lt_of_lt_of_le (h'.resolve_left ht) (by simpa using hut)
theorem ok_one {L : List RangeD} (h : Ok L) {x y : RangeD} (hx : x ∈ L) (hy : y ∈ L) {k : List Int} (h1 : holdsB (x.2.1, x.2.2.1) k = true) (h2 : holdsB (y.2.1, y.2.2.1) k = true) : x = y := by
  obtain ⟨i, hi, rfl⟩ := List.getElem_of_mem hx
  obtain ⟨j, hj, rfl⟩ := List.getElem_of_mem hy
  have hp := List.pairwise_iff_getElem.1 h.ch
  have key : ∀ {x y : RangeD}, (x.2.2.1 ≠ [] ∧ lexLt y.2.1 x.2.2.1 = false) → holdsB (x.2.1, x.2.2.1) k = true → holdsB (y.2.1, y.2.2.1) k = true → False := fun {x y} hr a b => by
    obtain ⟨-, a2⟩ := (holds_iff _ _ _).1 a
    obtain ⟨b1, -⟩ := (holds_iff _ _ _).1 b
    rcases a2 with a2 | a2
    · exact hr.1 a2
    · rw [le_lt b1 a2] at hr
      exact absurd hr.2 (by simp)
  rcases Nat.lt_trichotomy i j with hij | rfl | hij
  · exact (key (hp i j hi hj hij) h1 h2).elim
  · rfl
  · exact (key (hp j i hj hi hij) h2 h1).elim
theorem ok_apart {L : List RangeD} (h : Ok L) {x y : RangeD} (hx : x ∈ L) (hy : y ∈ L) (hn : x ≠ y) : meetB (x.2.1, x.2.2.1) (y.2.1, y.2.2.1) = false := by
  rw [Bool.eq_false_iff]
  intro hm
  obtain ⟨k, h1, h2⟩ := meet_hold hm
  exact hn (ok_one h hx hy h1 h2)
theorem ch_ok : ∀ {L : List RangeD} {lo : List Int}, Ch lo L → (∀ x ∈ L, lexLt x.2.1 lo = false) ∧ (∀ x ∈ L, Ne x.2.1 x.2.2.1) ∧ L.Pairwise fun x y => x.2.2.1 ≠ [] ∧ lexLt y.2.1 x.2.2.1 = false
  | [], _, h => by unfold Ch at h; exact h.elim
  | x :: l, lo, h => by
    unfold Ch at h
    obtain ⟨rfl, h⟩ := h
    rcases h with ⟨rfl, h⟩ | ⟨h1, h2, h3⟩
    · refine ⟨fun y hy => ?_, fun y hy => ?_, List.pairwise_singleton _ _⟩
      · rw [List.mem_singleton] at hy; subst hy; exact lexLt_irrefl _
      · rw [List.mem_singleton] at hy; subst hy; exact .inl h
    · obtain ⟨k1, k2, k3⟩ := ch_ok h3
      refine ⟨fun y hy => ?_, fun y hy => ?_, List.pairwise_cons.2 ⟨fun y hy => ⟨h1, k1 y hy⟩, k3⟩⟩
      · rcases List.mem_cons.1 hy with rfl | hy
        · exact lexLt_irrefl _
        · rw [Bool.eq_false_iff]
          intro h'
          have := k1 y hy
          rw [lexLt_trans h' h2] at this
          cases this
      · rcases List.mem_cons.1 hy with rfl | hy
        · exact .inr h2
        · exact k2 y hy
theorem ok_tab {L : List RangeD} (hg : Rm.Good L) (hc : Ch [] L) : Ok L := ⟨(ch_ok hc).2.1, (ch_ok hc).2.2, hg.2.2.2⟩
/-- a table, and all that it had at any time -/
structure Hi (L H : List RangeD) : Prop where
  good : Rm.Good L
  ch : Ch [] L
  num : ∀ x ∈ L, 1 ≤ x.1 ∧ x.1 ≤ 255
  ids : ∀ h ∈ H, ∃ c ∈ L, c.1 = h.1
  ord : ∀ h ∈ H, ∀ c ∈ L, (h.1 = c.1 ∨ meetB (h.2.1, h.2.2.1) (c.2.1, c.2.2.1) = true) → h.2.2.2 < c.2.2.2 ∨ h = c
  sub : ∀ c ∈ L, c ∈ H
theorem Hi.ok {L H : List RangeD} (h : Hi L H) : Ok L := ok_tab h.good h.ch
theorem nodup_id {L : List RangeD} (h : (L.map (·.1)).Nodup) {x y : RangeD} (hx : x ∈ L) (hy : y ∈ L) (he : x.1 = y.1) : x = y := by
  obtain ⟨i, hi, rfl⟩ := List.getElem_of_mem hx
  obtain ⟨j, hj, rfl⟩ := List.getElem_of_mem hy
  have hp := List.pairwise_iff_getElem.1 h
  have key : ∀ i j (hi : i < L.length) (hj : j < L.length), i < j → L[i].1 ≠ L[j].1 := fun i j hi hj hij => by
    have := hp i j (by rw [List.length_map]; exact hi) (by rw [List.length_map]; exact hj) hij
    rwa [List.getElem_map, List.getElem_map] at this
  rcases Nat.lt_trichotomy i j with hij | rfl | hij
  · exact absurd he (key i j hi hj hij)
  · rfl
  · exact absurd he.symm (key j i hj hi hij)
theorem Hi.same {L H : List RangeD} (h : Hi L H) {x y : RangeD} (hx : x ∈ L) (hy : y ∈ L) (hm : x.1 = y.1 ∨ meetB (x.2.1, x.2.2.1) (y.2.1, y.2.2.1) = true) : x = y := by
  rcases hm with hm | hm
  · exact nodup_id h.good.2.2.1 hx hy hm
  · obtain ⟨k, h1, h2⟩ := meet_hold hm
    exact ok_one h.ok hx hy h1 h2
theorem Hi.start : Hi [(1, [], [], 1)] [(1, [], [], 1)] := by
  refine ⟨good_new, ch_new, fun x hx => ?_, fun h hh => ⟨h, hh, rfl⟩, fun h hh c hc _ => ?_, fun c hc => hc⟩
  · rw [List.mem_singleton] at hx; subst hx; exact ⟨by simp, by simp⟩
  · rw [List.mem_singleton] at hh hc; subst hh hc; exact .inr rfl
theorem Hi.split {L H : List RangeD} (hi : Hi L H) (id other : Int) (key : List Int) : Hi (splitR L id other key) (H ++ splitR L id other key) := by
  have hg := good_split hi.good id other key
  have hc := ch_splitR (id := id) (other := other) (key := key) hi.ch
  have hok := ok_tab hg hc
  by_cases he : splitE L id other key = 0
  · obtain ⟨k, r, h1, h2, h3, h4, h5, h6, h7, h8, h9, h10, h11, h12, h13⟩ := splitE_zero he
    have hrL : r ∈ L := List.mem_of_getElem? h3
    have hp := splitL_parts h3
    have hmem : ∀ c, c ∈ splitR L id other key → c = (id, r.2.1, key, r.2.2.2 + 1) ∨ c = (other, key, r.2.2.1, r.2.2.2 + 1) ∨ c ∈ L := fun c hc => by
      rw [h5] at hc
      unfold splitL at hc
      simp only [List.mem_append, List.mem_cons, List.not_mem_nil, or_false] at hc
      rcases hc with (hc | hc | hc) | hc
      · exact .inr (.inr (List.mem_of_mem_take hc))
      · exact .inl hc
      · exact .inr (.inl hc)
      · exact .inr (.inr (List.mem_of_mem_drop hc))
    have hm1 : (id, r.2.1, key, r.2.2.2 + 1) ∈ splitR L id other key := by rw [h5]; unfold splitL; simp
    obtain ⟨q1, q2⟩ := (holds_iff _ _ _).1 h7
    refine ⟨hg, hc, fun x hx => ?_, fun h hh => ?_, fun h hh c hcc hm => ?_, fun c hcc => List.mem_append.2 (.inr hcc)⟩
    · rcases hmem x hx with rfl | rfl | hx
      · have := hi.num r hrL; rw [h4] at this; exact this
      · exact ⟨h9, h10⟩
      · exact hi.num x hx
    · rcases List.mem_append.1 hh with hh | hh
      · obtain ⟨c, hcL, hce⟩ := hi.ids h hh
        by_cases hcr : c = r
        · subst hcr
          exact ⟨_, hm1, by rw [← hce, h4]⟩
        · refine ⟨c, ?_, hce⟩
          rw [h5]
          unfold splitL
          rw [hp] at hcL
          simp only [List.mem_append, List.mem_cons, List.not_mem_nil, or_false] at hcL ⊢
          rcases hcL with (hcL | hcL) | hcL
          · exact .inl (.inl hcL)
          · exact absurd hcL hcr
          · exact .inr hcL
      · exact ⟨h, hh, rfl⟩
    · rcases List.mem_append.1 hh with hh | hh
      · -- of before
        have viaR : (h.1 = r.1 ∨ meetB (h.2.1, h.2.2.1) (r.2.1, r.2.2.1) = true) → h.2.2.2 ≤ r.2.2.2 := fun hm => by
          rcases hi.ord h hh r hrL hm with h' | h'
          · omega
          · rw [h']; exact Int.le_refl _
        rcases hmem c hcc with rfl | rfl | hcL
        · left
          have : h.2.2.2 ≤ r.2.2.2 := viaR (by
            rcases hm with hm | hm
            · exact .inl (by rw [h4]; exact hm)
            · obtain ⟨q, a, b⟩ := meet_hold hm
              obtain ⟨b1, b2⟩ := (holds_iff _ _ _).1 b
              refine .inr (hold_meet a ((holds_iff _ _ _).2 ⟨b1, ?_⟩))
              rcases b2 with b2 | b2
              · have b2' : key = [] := b2
                rw [b2'] at q1 q2
                exfalso
                have hk : r.2.1 = [] := by
                  rcases lexLt_tri [] r.2.1 with h' | h' | h'
                  · rw [q1] at h'; cases h'
                  · exact h'.symm
                  · rw [lexLt_none] at h'; cases h'
                exact h8 (by rw [b2', hk])
              · exact q2.imp (fun z => z) fun q2 => lexLt_trans b2 q2)
          show h.2.2.2 < r.2.2.2 + 1
          omega
        · left
          have : h.2.2.2 ≤ r.2.2.2 := viaR (by
            rcases hm with hm | hm
            · obtain ⟨c, hcL, hce⟩ := hi.ids h hh
              exact absurd (hce.trans hm) (h11 c hcL)
            · obtain ⟨q, a, b⟩ := meet_hold hm
              obtain ⟨b1, b2⟩ := (holds_iff _ _ _).1 b
              refine .inr (hold_meet a ((holds_iff _ _ _).2 ⟨?_, b2⟩))
              rw [Bool.eq_false_iff]
              intro h'
              have := lt_of_lt_of_le h' q1
              have b1' : lexLt q key = false := b1
              rw [this] at b1'
              cases b1')
          show h.2.2.2 < r.2.2.2 + 1
          omega
        · exact hi.ord h hh c hcL hm
      · right
        rcases hm with hm | hm
        · exact nodup_id hg.2.2.1 hh hcc hm
        · obtain ⟨q, a, b⟩ := meet_hold hm
          exact ok_one hok hh hcc a b
  · have e : splitR L id other key = L := by unfold splitR; rw [if_neg he]
    rw [e]
    refine ⟨hi.good, hi.ch, hi.num, fun h hh => ?_, fun h hh c hcc hm => ?_, fun c hcc => List.mem_append.2 (.inr hcc)⟩
    · rcases List.mem_append.1 hh with hh | hh
      · exact hi.ids h hh
      · exact ⟨h, hh, rfl⟩
    · rcases List.mem_append.1 hh with hh | hh
      · exact hi.ord h hh c hcc hm
      · exact .inr (hi.same hh hcc hm)
theorem Hi.right {L H : List RangeD} (hi : Hi L H) {c : RangeD} (hc : c ∈ L) : rightB c = true := by
  obtain ⟨a, b⟩ := hi.num c hc
  obtain ⟨d, e, f, g⟩ := hi.good.2.2.2 c hc
  have hn := (ne_iff _ _).2 (hi.ok.ne c hc)
  unfold rightB
  simp only [Bool.and_eq_true, decide_eq_true_eq, Bool.not_eq_true']
  exact ⟨⟨⟨⟨⟨⟨a, b⟩, f⟩, g⟩, d⟩, e⟩, hn⟩
theorem keep_iff (r x : RangeD) : keepC r x = true ↔ x.1 ≠ r.1 ∧ meetB (x.2.1, x.2.2.1) (r.2.1, r.2.2.1) = false := by
  unfold keepC
  simp
theorem Hi.go {L H : List RangeD} (hi : Hi L H) {h c : RangeD} (hh : h ∈ H) (hc : c ∈ L) : stopC c h = false := by
  unfold stopC
  cases hk : keepC c h with
  | true => rfl
  | false =>
    have hm : h.1 = c.1 ∨ meetB (h.2.1, h.2.2.1) (c.2.1, c.2.2.1) = true := by
      apply Classical.byContradiction
      intro hn
      have : keepC c h = true := (keep_iff c h).2 ⟨fun e => hn (.inl e), by simpa using fun e => hn (.inr e)⟩
      rw [hk] at this
      cases this
    rcases hi.ord h hh c hc hm with h1 | rfl
    · have a : ¬ c.2.2.2 < h.2.2.2 := by omega
      have b : h.2.2.2 ≠ c.2.2.2 := by omega
      simp [a, b]
    · have a : sameB h h = true := (sameB_iff h h).2 rfl
      simp [a]
theorem learn_mem {C : List RangeD} {r x : RangeD} (h : x ∈ learnL C r) : x = r ∨ x ∈ C := by
  unfold learnL at h
  split at h
  · rcases mem_insC.1 h with h | h
    · exact .inl h
    · exact .inr (List.mem_filter.1 h).1
  · exact .inr h
theorem Hi.learns {L H C : List RangeD} (hi : Hi L H) (hs : ∀ x ∈ C, x ∈ H) {c : RangeD} (hc : c ∈ L) : learnB C c = true := by
  unfold learnB
  rw [hi.right hc, Bool.true_and, Bool.not_eq_true', List.any_eq_false]
  intro x hx
  rw [hi.go (hs x hx) hc]
  simp
theorem find_mem {C : List RangeD} {k : List Int} {x : RangeD} (h : findF C k = some x) : x ∈ C ∧ holdsB (x.2.1, x.2.2.1) k = true := by
  unfold findF at h
  exact ⟨List.mem_of_find?_eq_some h, by have := List.find?_some (p := fun x : RangeD => holdsB (x.2.1, x.2.2.1) k) h; exact this⟩
/-- never an older one where it knew a newer -/
theorem learn_newer {C : List RangeD} (h : Ok C) (r : RangeD) {k : List Int} {o n : RangeD} (h1 : findF C k = some o) (h2 : findF (learnL C r) k = some n) : o.2.2.2 ≤ n.2.2.2 := by
  obtain ⟨a1, a2⟩ := find_mem h1
  obtain ⟨b1, b2⟩ := find_mem h2
  rcases learn_mem b1 with rfl | b1
  · by_cases hb : learnB C n = true
    · unfold learnB at hb
      simp only [Bool.and_eq_true, Bool.not_eq_true', List.any_eq_false] at hb
      have hs := hb.2 o a1
      have hm := hold_meet a2 b2
      have hk : keepC n o = false := by
        rw [Bool.eq_false_iff]
        intro hk
        have := ((keep_iff n o).1 hk).2
        rw [hm] at this
        cases this
      unfold stopC at hs
      rw [hk] at hs
      simp at hs
      omega
    · have e : learnL C n = C := by unfold learnL; rw [if_neg hb]
      rw [e] at b1
      rw [ok_one h a1 (find_mem h2 |>.1 |> fun z => by rw [e] at z; exact z) a2 b2]
      exact Int.le_refl _
  · rw [ok_one h a1 b1 a2 b2]
    exact Int.le_refl _
/-- all that the table has now, learned -/
theorem Hi.keeps {L H C : List RangeD} (hi : Hi L H) {x c : RangeD} (hx : x ∈ C) (hxL : x ∈ L) (hc : c ∈ L) : x ∈ learnL C c ∨ x = c := by
  by_cases he : x = c
  · exact .inr he
  · left
    unfold learnL
    split
    · refine mem_insC.2 (.inr (List.mem_filter.2 ⟨hx, (keep_iff c x).2 ⟨fun e => he (hi.same hxL hc (.inl e)), ?_⟩⟩))
      rw [Bool.eq_false_iff]
      intro hm
      exact he (hi.same hxL hc (.inr hm))
    · exact hx
theorem learn_has {C : List RangeD} {c : RangeD} (h : learnB C c = true) : c ∈ learnL C c := by
  unfold learnL
  rw [if_pos h]
  exact mem_insC.2 (.inl rfl)
theorem Hi.find {L H C : List RangeD} (hi : Hi L H) (ho : Ok C) (hs : ∀ x ∈ L, x ∈ C) (k : List Int) : ∃ x, findF L k = some x ∧ findF C k = some x := by
  have h1 := ch_one (key := k) hi.ch (lexLt_none k)
  have hpos : 0 < L.countP (fun x => holdsB (x.2.1, x.2.2.1) k) := by omega
  obtain ⟨x, hx, hh⟩ := List.countP_pos_iff.1 hpos
  refine ⟨x, ?_, ?_⟩
  · cases hf : findF L k with
    | none =>
      unfold findF at hf
      exact absurd hh (List.find?_eq_none.1 hf x hx)
    | some y => rw [ok_one hi.ok hx (find_mem hf).1 hh (find_mem hf).2]
  · cases hf : findF C k with
    | none =>
      unfold findF at hf
      exact absurd hh (List.find?_eq_none.1 hf x (hs x hx))
    | some y => rw [ok_one ho (hs x hx) (find_mem hf).1 hh (find_mem hf).2]
end Go.Proofs.Ytbeniogffhihlaa
namespace Go.Proofs.Ytbeniogffhihlaa
open Go.RowKit
namespace Rm
open PM
theorem rgs_keep {S : Nat → Prop} {w w1 : World} {B : Nat} {v : Value} {l : List RangeD} (h : OwnRgs w B v l) (k : Chg S w w1) (hv : ∀ b, v.ownBlock = some b → ¬ S b) (hS : ∀ b, S b → ∃ cur t, w.heap[b]? = some (.cells cur t (0, 0)) ∧ t ≠ 5) : OwnRgs w1 B v l :=
  h.chg k hv fun b cur hb hs => by
    obtain ⟨cur', t, h1, h2⟩ := hS b hs
    exact h2 (types_apart h1 hb)
theorem OwnRgs.join {w w1 : World} {B B' : Nat} {v v' u : Value} {L M : List RangeD} {xs ys : List Value} (h : OwnRgs w B v L) (k : OwnRgs w B' u M) (hB : B ≤ B') (hg : w.grownBy w1 v.ownBlock) (hx : ∃ rs : List RV, rs.map (·.1) = L ∧ w.ownsRow B 39 4 v L.length (rs.flatMap cells4) ∧ (∀ r ∈ rs, GoodV w B r) ∧ xs = rs.flatMap cells4)
    (hy : ∃ ss : List RV, ss.map (·.1) = M ∧ (∀ r ∈ ss, GoodV w B r) ∧ ys = ss.flatMap cells4) (ho : w1.ownsRow B 39 4 v' (L.length + M.length) (xs ++ ys)) : OwnRgs w1 B v' (L ++ M) := by
  obtain ⟨rs, h1, h2, h3, rfl⟩ := hx
  obtain ⟨ss, k1, k3, rfl⟩ := hy
  refine ⟨rs ++ ss, by rw [List.map_append, h1, k1], ?_, fun r hr => ?_⟩
  · rw [List.flatMap_append, List.length_append]
    exact ho
  · rcases List.mem_append.1 hr with hr | hr
    · exact (h3 r hr).grown h2 hg
    · exact (k3 r hr).grown h2 hg
/-- a table, a cache, and the list of all that was learned of, in the law's memory -/
structure LnI (W0 : World) (B tb cb : Nat) (vt vc : Value) (wr : World) (lv : Value) (L C H : List RangeD) : Prop where
  tblk : wr.heap[tb]? = some (.cells #[vt] 80 (0, 0))
  town : OwnRgs wr B vt L
  cblk : wr.heap[cb]? = some (.cells #[vc] 88 (0, 0))
  cown : OwnRgs wr B vc C
  aown : OwnRgs wr B lv H
  a1 : ∀ b, vt.ownBlock = some b → vc.ownBlock ≠ some b
  a2 : ∀ b, vt.ownBlock = some b → lv.ownBlock ≠ some b
  a3 : ∀ b, vc.ownBlock = some b → lv.ownBlock ≠ some b
  bel : Below W0.heap.size W0 wr
  hB : W0.heap.size ≤ B
  htb : B ≤ tb
  hcb : B ≤ cb
  hbs : B ≤ wr.heap.size
section
variable {W0 : World} {B tb cb : Nat} {vt vc : Value} {wr w1 : World} {lv : Value} {L C H : List RangeD}
theorem LnI.tlt (h : LnI W0 B tb cb vt vc wr lv L C H) : tb < wr.heap.size := (Array.getElem?_eq_some_iff.1 h.tblk).1
theorem LnI.clt (h : LnI W0 B tb cb vt vc wr lv L C H) : cb < wr.heap.size := (Array.getElem?_eq_some_iff.1 h.cblk).1
theorem LnI.tcell (h : LnI W0 B tb cb vt vc wr lv L C H) : wr.cell? ⟨tb, 0, none⟩ = some vt := by rw [cell_of_row wr tb 0 _ _ _ h.tblk]; rfl
theorem LnI.ccell (h : LnI W0 B tb cb vt vc wr lv L C H) : wr.cell? ⟨cb, 0, none⟩ = some vc := by rw [cell_of_row wr cb 0 _ _ _ h.cblk]; rfl
theorem LnI.below (h : LnI W0 B tb cb vt vc wr lv L C H) (hb : Below wr.heap.size wr w1) : LnI W0 B tb cb vt vc w1 lv L C H :=
  ⟨(hb.block tb h.tlt).trans h.tblk, h.town.below hb, (hb.block cb h.clt).trans h.cblk, h.cown.below hb, h.aown.below hb, h.a1, h.a2, h.a3, bel_call h.bel hb, h.hB, h.htb, h.hcb, Nat.le_trans h.hbs hb.size⟩
theorem row_ne {b : Nat} {cur : Array Value} {t : TypeId} {v : Value} {l : List RangeD} (h : OwnRgs wr B v l) (hb : wr.heap[b]? = some (.cells cur t (0, 0))) (ht : t ≠ 39) : v.ownBlock ≠ some b := fun e => by
  obtain ⟨-, -, c, hc⟩ := h.typed b e
  exact ht (types_apart hb hc)
theorem LnI.split {e : Ending} {c : Int} {L' : List RangeD} (h : LnI W0 B tb cb vt vc wr lv L C H) (hs : SplitP B tb vt c L' wr e w1) : ∃ vt', LnI W0 B tb cb vt' vc w1 lv L' C H := by
  obtain ⟨-, vt', h1, h2, h3, h4⟩ := hs
  have hS : ∀ b, (b = tb ∨ vt.ownBlock = some b) → ∃ cur t, wr.heap[b]? = some (.cells cur t (0, 0)) ∧ t ≠ 5 := fun b hb => by
    rcases hb with rfl | hb
    · exact ⟨_, _, h.tblk, by decide⟩
    · obtain ⟨-, -, cur, hc⟩ := h.town.typed b hb
      exact ⟨_, _, hc, by decide⟩
  have hc : ∀ b, vc.ownBlock = some b → ¬ (b = tb ∨ vt.ownBlock = some b) := fun b hb hs => by
    rcases hs with rfl | hs
    · exact row_ne h.cown h.tblk (by decide) hb
    · exact h.a1 b hs hb
  have ha : ∀ b, lv.ownBlock = some b → ¬ (b = tb ∨ vt.ownBlock = some b) := fun b hb hs => by
    rcases hs with rfl | hs
    · exact row_ne h.aown h.tblk (by decide) hb
    · exact h.a2 b hs hb
  have hcb : ¬ (cb = tb ∨ vt.ownBlock = some cb) := fun hs => by
    rcases hs with hs | hs
    · have := h.cblk
      rw [hs] at this
      exact absurd (types_apart this h.tblk) (by decide)
    · exact row_ne h.town h.cblk (by decide) hs
  refine ⟨vt', h1, h2, (h3.block cb h.clt hcb).trans h.cblk, rgs_keep h.cown h3 hc hS, rgs_keep h.aown h3 ha hS, fun b hb hv => ?_, fun b hb hv => ?_, h.a3, h.bel.trans (h3.below (Nat.le_trans h.hB h.hbs) fun b hb hs => ?_), h.hB, h.htb, h.hcb, Nat.le_trans h.hbs h3.size⟩
  · rcases h4 with h4 | ⟨b', h5, h6⟩
    · exact h.a1 b (h4 ▸ hb) hv
    · rw [h5] at hb
      cases hb
      have := (h.cown.typed _ hv).2.1
      omega
  · rcases h4 with h4 | ⟨b', h5, h6⟩
    · exact h.a2 b (h4 ▸ hb) hv
    · rw [h5] at hb
      cases hb
      have := (h.aown.typed _ hv).2.1
      omega
  · rcases hs with rfl | hs
    · have := h.htb; have := h.hB; omega
    · have := (h.town.typed b hs).1; have := h.hB; omega
theorem LnI.learn {e : Ending} {b0 : Bool} {C' : List RangeD} (h : LnI W0 B tb cb vt vc wr lv L C H) (hs : StoP B cb vc b0 C' wr e w1) : ∃ vc', LnI W0 B tb cb vt vc' w1 lv L C' H := by
  obtain ⟨-, vc', h1, h2, h3, h4⟩ := hs
  have hS : ∀ b, (b = cb ∨ vc.ownBlock = some b) → ∃ cur t, wr.heap[b]? = some (.cells cur t (0, 0)) ∧ t ≠ 5 := fun b hb => by
    rcases hb with rfl | hb
    · exact ⟨_, _, h.cblk, by decide⟩
    · obtain ⟨-, -, cur, hc⟩ := h.cown.typed b hb
      exact ⟨_, _, hc, by decide⟩
  have ht : ∀ b, vt.ownBlock = some b → ¬ (b = cb ∨ vc.ownBlock = some b) := fun b hb hs => by
    rcases hs with rfl | hs
    · exact row_ne h.town h.cblk (by decide) hb
    · exact h.a1 b hb hs
  have ha : ∀ b, lv.ownBlock = some b → ¬ (b = cb ∨ vc.ownBlock = some b) := fun b hb hs => by
    rcases hs with rfl | hs
    · exact row_ne h.aown h.cblk (by decide) hb
    · exact h.a3 b hs hb
  have htb : ¬ (tb = cb ∨ vc.ownBlock = some tb) := fun hs => by
    rcases hs with hs | hs
    · have := h.tblk
      rw [hs] at this
      exact absurd (types_apart this h.cblk) (by decide)
    · exact row_ne h.cown h.tblk (by decide) hs
  refine ⟨vc', (h3.block tb h.tlt htb).trans h.tblk, rgs_keep h.town h3 ht hS, h1, h2, rgs_keep h.aown h3 ha hS, fun b hb hv => ?_, h.a2, fun b hb hv => ?_, h.bel.trans (h3.below (Nat.le_trans h.hB h.hbs) fun b hb hs => ?_), h.hB, h.htb, h.hcb, Nat.le_trans h.hbs h3.size⟩
  · rcases h4 with h4 | ⟨b', h5, h6⟩
    · exact h.a1 b hb (h4 ▸ hv)
    · rw [h5] at hv
      cases hv
      have := (h.town.typed _ hb).2.1
      omega
  · rcases h4 with h4 | ⟨b', h5, h6⟩
    · exact h.a3 b (h4 ▸ hb) hv
    · rw [h5] at hb
      cases hb
      have := (h.aown.typed _ hv).2.1
      omega
  · rcases hs with rfl | hs
    · have := h.hcb; have := h.hB; omega
    · have := (h.cown.typed b hs).1; have := h.hB; omega
theorem LnI.push {lv' : Value} {H' : List RangeD} {n : Nat} (h : LnI W0 B tb cb vt vc wr lv L C H) (ho : OwnRgs w1 B lv' H') (hg : wr.grownBy w1 lv.ownBlock) (hn : lv'.ownBlock = lv.ownBlock ∨ lv'.ownBlock = some n) (hnn : wr.heap.size ≤ n) : LnI W0 B tb cb vt vc w1 lv' L C H' := by
  have h3 : Chg (fun b => lv.ownBlock = some b) wr w1 := .of_grown hg fun b _ hb => hb
  have hS : ∀ b, lv.ownBlock = some b → ∃ cur t, wr.heap[b]? = some (.cells cur t (0, 0)) ∧ t ≠ 5 := fun b hb => by
    obtain ⟨-, -, cur, hc⟩ := h.aown.typed b hb
    exact ⟨_, _, hc, by decide⟩
  have hnew : ∀ {v : Value} {l : List RangeD}, OwnRgs wr B v l → (∀ b, v.ownBlock = some b → lv.ownBlock ≠ some b) → ∀ b, v.ownBlock = some b → lv'.ownBlock ≠ some b := fun {v l} hv ha b hb hl => by
    rcases hn with hn | hn
    · exact ha b hb (hn ▸ hl)
    · rw [hn] at hl
      cases hl
      have := (hv.typed _ hb).2.1
      omega
  refine ⟨(h3.block tb h.tlt (row_ne h.aown h.tblk (by decide))).trans h.tblk, rgs_keep h.town h3 h.a2 hS, (h3.block cb h.clt (row_ne h.aown h.cblk (by decide))).trans h.cblk, rgs_keep h.cown h3 h.a3 hS, ho, h.a1, hnew h.town h.a2, hnew h.cown h.a3, h.bel.trans (h3.below (Nat.le_trans h.hB h.hbs) fun b hb hs => ?_), h.hB, h.htb, h.hcb, Nat.le_trans h.hbs h3.size⟩
  have := (h.aown.typed b hs).1
  have := h.hB
  omega
end
end Rm
end Go.Proofs.Ytbeniogffhihlaa
namespace Go.Proofs.Ytbeniogffhihlaa
open Go.RowKit
namespace Rm
open PM
theorem LnI.swap {W0 : World} {B tb cb : Nat} {vt vc : Value} {wr w1 : World} {lv u : Value} {L C H M : List RangeD} (h : LnI W0 B tb cb vt vc wr lv L C H) (ho : OwnRgs w1 wr.heap.size u M) (hb : Below wr.heap.size wr w1) : LnI W0 B tb cb vt vc w1 u L C M := by
  have h' := h.below hb
  refine ⟨h'.tblk, h'.town, h'.cblk, h'.cown, ?_, h.a1, fun b hv hl => ?_, fun b hv hl => ?_, h'.bel, h.hB, h.htb, h.hcb, h'.hbs⟩
  · obtain ⟨rs, h1, h2, h3⟩ := ho
    exact ⟨rs, h1, own_mono h2 h.hbs, fun r hr => by obtain ⟨a, b, c⟩ := h3 r hr; exact ⟨a.mono h.hbs, b.mono h.hbs, c⟩⟩
  · have := (ho.typed b hl).1
    have := (h.town.typed b hv).2.1
    omega
  · have := (ho.typed b hl).1
    have := (h.cown.typed b hv).2.1
    omega
theorem ok_ix {L : List RangeD} (h : Ok L) {i j : Nat} {x y : RangeD} (hij : j < i) (hx : L[i]? = some x) (hy : L[j]? = some y) : meetB (x.2.1, x.2.2.1) (y.2.1, y.2.2.1) = false := by
  obtain ⟨hi, rfl⟩ := List.getElem?_eq_some_iff.1 hx
  obtain ⟨hj, rfl⟩ := List.getElem?_eq_some_iff.1 hy
  have hr := List.pairwise_iff_getElem.1 h.ch j i hj hi hij
  rw [Bool.eq_false_iff]
  intro hm
  obtain ⟨k, a, b⟩ := meet_hold hm
  obtain ⟨a1, -⟩ := (holds_iff _ _ _).1 a
  obtain ⟨-, b2⟩ := (holds_iff _ _ _).1 b
  rcases b2 with b2 | b2
  · exact hr.1 b2
  · rw [le_lt a1 b2] at hr
    exact absurd hr.2 (by simp)
theorem find_some {C : List RangeD} {k : List Int} (h : (findF C k).isSome = true) : findF C k = some ((findF C k).getD zeroR) := by
  cases hf : findF C k with
  | none => rw [hf] at h; cases h
  | some x => rfl
theorem find_newer {C : List RangeD} (h : Ok C) (r : RangeD) (k : List Int) {R1 R2 : RangeD} {b1 b2 : Bool} (h1 : (findF C k).getD zeroR = R1) (h2 : (findF C k).isSome = b1) (h3 : (findF (learnL C r) k).getD zeroR = R2) (h4 : (findF (learnL C r) k).isSome = b2) (e1 : b1 = true) (e2 : b2 = true) : ¬ R2.2.2.2 < R1.2.2.2 := by
  subst e1
  subst e2
  have a := find_some h2
  have b := find_some h4
  rw [h1] at a
  rw [h3] at b
  have := learn_newer h r a b
  omega
/-- an index of the law's: the remainder of any number -/
theorem idx_of {x : Int} {n : Nat} (hn : 0 < n) : (¬ x.tmod n < 0 → ∃ j : Nat, j < n ∧ x.tmod n = (j : Int)) ∧ (x.tmod n < 0 → ∃ j : Nat, j < n ∧ x.tmod n + n = (j : Int)) := by
  have h1 : x.tmod n < n := Int.tmod_lt_of_pos x (by omega)
  have h2 : -(n : Int) < x.tmod n := by
    have := Int.tmod_lt_of_pos (-x) (b := (n : Int)) (by omega)
    rw [Int.neg_tmod] at this
    omega
  exact ⟨fun h => ⟨(x.tmod n).toNat, by omega, by omega⟩, fun h => ⟨(x.tmod n + n).toNat, by omega, by omega⟩⟩
end Rm
end Go.Proofs.Ytbeniogffhihlaa
