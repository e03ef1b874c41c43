/- rangemeta: caches, plain: Learn, Forget, Left of both come to the same. -/
import Derived.Test.YtbeniogffhihlaaRmOk
import Derived.Test.YtbeniogffhihlaaRmRL
import Derived.Test.YtbeniogffhihlaaRmCL
set_option linter.unusedVariables false
set_option linter.unusedSimpArgs false
namespace Go.Proofs.Ytbeniogffhihlaa
open Go.RowKit
open PM Rm
theorem forget_same (id : Int) : ∀ L : List RangeD, forgR id (L.map toRg) = (L.filter fun x => !(x.1 == id)).map toRg
  | [] => rfl
  | x :: l => by
    rw [List.map_cons, forgR, forget_same id l, List.filter_cons]
    by_cases h : x.1 = id
    · rw [if_pos (show (toRg x).id = id from h), if_neg (by simp [h])]
    · rw [if_neg (show ¬ (toRg x).id = id from h), if_pos (by simp [h]), List.map_cons]
theorem out_keep (r x : RangeD) : outR (toRg r) (toRg x) = !keepC r x := by
  unfold outR keepC
  rw [spM_eq]
  show (meetB (x.2.1, x.2.2.1) (r.2.1, r.2.2.1) || (x.1 == r.1)) = _
  cases meetB (x.2.1, x.2.2.1) (r.2.1, r.2.2.1) <;> cases (x.1 == r.1) <;> rfl
theorem stop_stop (r x : RangeD) : stopR (toRg r) (toRg x) = stopC r x := by
  unfold stopR stopC
  rw [out_keep]
  rfl
theorem ins_true (r : RangeD) : ∀ L : List RangeD, insR (toRg r) (L.map toRg) true = (L.filter (keepC r)).map toRg
  | [] => rfl
  | x :: l => by
    rw [List.map_cons, insR, ins_true r l, List.filter_cons, out_keep]
    cases keepC r x
    · rfl
    · rw [if_neg (by simp), if_neg (by simp), if_pos rfl, List.map_cons]
theorem ins_false {r : RangeD} (hr : Ne r.2.1 r.2.2.1) : ∀ L : List RangeD, (∀ x ∈ L, Ne x.2.1 x.2.2.1) → insR (toRg r) (L.map toRg) false = (insC (L.filter (keepC r)) r).map toRg
  | [], _ => rfl
  | x :: l, h => by
    have ih := ins_false hr l fun y hy => h y (by simp [hy])
    rw [List.map_cons, insR, ih, List.filter_cons, out_keep]
    cases hk : keepC r x with
    | false => rfl
    | true =>
      rw [if_neg (by simp), if_pos rfl]
      have hp : (0 < cmpB (toRg x).f (toRg r).f) ↔ lexLt r.2.1 x.2.1 = true := cmpB_pos _ _
      cases hc : lexLt x.2.1 r.2.1 with
      | true =>
        have hn : lexLt r.2.1 x.2.1 = false := by
          rw [Bool.eq_false_iff]
          intro h'
          have := lexLt_trans hc h'
          rw [lexLt_irrefl] at this
          cases this
        rw [if_neg (fun h' => by rw [hp.1 h'.2] at hn; cases hn), insC_lt hc, List.map_cons]
      | false =>
        have hgt : lexLt r.2.1 x.2.1 = true := by
          rcases lexLt_tri x.2.1 r.2.1 with h1 | h1 | h1
          · rw [hc] at h1; cases h1
          · exfalso
            have hm : meetB (x.2.1, x.2.2.1) (r.2.1, r.2.2.1) = true := by
              rw [h1]
              exact meet_from (by rw [← h1]; exact h x (by simp)) hr
            unfold keepC at hk
            rw [hm] at hk
            simp at hk
          · exact h1
        rw [if_pos ⟨rfl, hp.2 hgt⟩, insC_ge hc, ins_true]
        rfl
theorem any_map_stop (r : RangeD) (L : List RangeD) : (L.map toRg).any (stopR (toRg r)) = L.any (stopC r) := by
  rw [List.any_map]
  congr 1
  funext x
  exact stop_stop r x
theorem learn_same (L : List RangeD) (r : RangeD) (h : ∀ x ∈ L, Ne x.2.1 x.2.2.1) : learnR (toRg r) (L.map toRg) = ((learnL L r).map toRg, learnB L r) := by
  have hR : (toRg r).right = rightB r := rfl
  unfold learnR learnL
  rw [any_map_stop, hR]
  cases hr : rightB r with
  | false =>
    have e : learnB L r = false := by unfold learnB; rw [hr]; rfl
    rw [if_neg (by simp), e]
    rfl
  | true =>
    cases ha : L.any (stopC r) with
    | true =>
      have e : learnB L r = false := by unfold learnB; rw [ha, hr]; rfl
      rw [if_neg (by simp), e]
      rfl
    | false =>
      have e : learnB L r = true := by unfold learnB; rw [ha, hr]; rfl
      rw [if_pos ⟨rfl, rfl⟩, e, if_pos rfl, ins_false (right_ne hr).1 L h]
/-- of what is left: an empty rest -/
theorem lrS_empty {t g : List Int} (h : spE g t = true) : ∀ l : List Rg, lrS t g l = []
  | [] => by unfold lrS; rw [if_pos h]
  | x :: l => by
    have : spM x.f x.t g t = false := by unfold spM; rw [h]; simp
    unfold lrS
    rw [if_neg (by rw [this]; simp)]
    exact lrS_empty h l
def clipT (g t : List Int) : List Int := if t ≠ [] ∧ lexLt g t = false then t else g
theorem ge_trans {a b c : List Int} (h1 : lexLt a b = false) (h2 : lexLt b c = false) : lexLt a c = false := by
  rw [Bool.eq_false_iff]
  intro h
  have := lt_of_lt_of_le h h2
  rw [h1] at this
  cases this
theorem spE_self {t : List Int} (h : t ≠ []) : spE t t = true := by rw [spE_eq, empty_iff]; exact ⟨h, lexLt_irrefl t⟩
theorem left_go {f t : List Int} (hft : spE f t = false) : ∀ (L : List RangeD) (g : List Int), (∀ x ∈ L, Ne x.2.1 x.2.2.1) → (L.Pairwise fun x y => x.2.2.1 ≠ [] ∧ lexLt y.2.1 x.2.2.1 = false) → lexLt g f = false → (g = f ∨ ∀ x ∈ L, lexLt x.2.1 g = false) →
    lfS t (clipT g t) (cutS f t (L.map toRg)) = lrS t g (L.map toRg) := fun L => by
  have hftn : Ne f t := (ne_iff f t).1 hft
  induction L with
  | nil =>
    intro g _ _ hgf hg
    show lfS t (clipT g t) [] = lrS t g []
    unfold lfS lrS clipT
    split
    · rename_i h
      rw [if_pos (spE_self h.1), if_pos (by rw [spE_eq, empty_iff]; exact h)]
    · rfl
  | cons x l ih =>
    intro g hne hch hgf hg
    rw [List.pairwise_cons] at hch
    have hx := hne x (by simp)
    have ih' := fun g => ih g (fun y hy => hne y (by simp [hy])) hch.2
    by_cases hgt : t ≠ [] ∧ lexLt g t = false
    · have hcl : clipT g t = t := if_pos hgt
      have hge : spE g t = true := by rw [spE_eq, empty_iff]; exact hgt
      rw [lrS_empty hge, hcl]
      have hall : ∀ y ∈ x :: l, spM y.2.1 y.2.2.1 f t = false := fun y hy => by
        rcases hg with rfl | hg
        · rw [hft] at hge; cases hge
        · have h1 := hg y hy
          have h2 := ge_trans h1 hgt.2
          rw [spM_eq, Bool.eq_false_iff]
          intro h3
          rw [meet_iff _ _ _ _ (hne y hy) hft] at h3
          have hyf : lexLt y.2.1 f = false := ge_trans h1 hgf
          rw [if_neg (by rw [hyf]; simp)] at h3
          unfold upT at h3
          split at h3
          · rcases h3 with h3 | h3
            · exact hgt.1 h3
            · rw [h2] at h3; cases h3
          · rw [if_neg hgt.1] at h3
            split at h3
            · rcases h3 with h3 | h3
              · exact hgt.1 h3
              · rw [h2] at h3; cases h3
            · rename_i hty htt
              rcases h3 with h3 | h3
              · exact hty h3
              · have := lt_of_lt_of_le h3 (by simpa using htt)
                rw [h2] at this
                cases this
      have hcut : cutS f t ((x :: l).map toRg) = [] := by
        have : ∀ l : List RangeD, (∀ y ∈ l, spM y.2.1 y.2.2.1 f t = false) → cutS f t (l.map toRg) = [] := fun l => by
          induction l with
          | nil => intro _; rfl
          | cons y l ih =>
            intro h
            rw [List.map_cons, cutS]
            have : spM (toRg y).f (toRg y).t f t = false := h y (by simp)
            rw [if_neg (by rw [this]; simp)]
            exact ih fun z hz => h z (by simp [hz])
        exact this _ hall
      rw [hcut]
      unfold lfS
      rw [if_pos (spE_self hgt.1)]
    · have hcl : clipT g t = g := if_neg hgt
      have hgn : Ne g t := by
        unfold Ne
        by_cases h : t = []
        · exact .inl h
        · cases h2 : lexLt g t with
          | true => exact .inr rfl
          | false => exact absurd ⟨h, h2⟩ hgt
      have hge : spE g t = false := (ne_iff g t).2 hgn
      rw [hcl]
      have hmf := meet_iff x.2.1 x.2.2.1 f t hx hft
      have hmg := meet_iff x.2.1 x.2.2.1 g t hx hge
      have hmx : (if lexLt x.2.1 f = true then f else x.2.1) = (if lexLt x.2.1 g = true then g else x.2.1) := by
        rcases hg with rfl | hg
        · rfl
        · have h1 := hg x (by simp)
          rw [if_neg (by rw [ge_trans h1 hgf]; simp), if_neg (by rw [h1]; simp)]
      have hsp : spM x.2.1 x.2.2.1 f t = spM x.2.1 x.2.2.1 g t := by
        rw [spM_eq, spM_eq, Bool.eq_iff_iff, hmf, hmg, hmx]
      rw [List.map_cons, cutS, lrS]
      have hsp' : spM (toRg x).f (toRg x).t f t = spM (toRg x).f (toRg x).t g t := hsp
      rw [hsp']
      have hgl : g = f ∨ ∀ y ∈ l, lexLt y.2.1 g = false := hg.imp id fun h y hy => h y (by simp [hy])
      cases hm : spM (toRg x).f (toRg x).t g t with
      | false =>
        rw [if_neg (by simp), if_neg (by simp)]
        have := ih' g hgf hgl
        rwa [hcl] at this
      | true =>
        rw [if_pos rfl, if_pos rfl, lfS]
        simp only
        rw [shF_eq, shT_eq]
        have hm' : meetB (x.2.1, x.2.2.1) (g, t) = true := by rw [← spM_eq]; exact hm
        rw [meet_iff _ _ _ _ hx hge] at hm'
        have e1 : (if cmpB g (if lexLt (toRg x).f f = true then f else (toRg x).f) < 0 then [(g, if lexLt (toRg x).f f = true then f else (toRg x).f)] else []) = (if 0 < cmpB (toRg x).f g then [(g, (toRg x).f)] else []) := by
          have hn : ∀ a : List Int, (cmpB g a < 0) ↔ lexLt g a = true := fun a => by rw [← cmpB_neg]; simp
          simp only [hn, cmpB_pos]
          show (if lexLt g (if lexLt x.2.1 f = true then f else x.2.1) = true then [(g, if lexLt x.2.1 f = true then f else x.2.1)] else []) = (if lexLt g x.2.1 = true then [(g, x.2.1)] else [])
          cases hxf : lexLt x.2.1 f with
          | false => rfl
          | true =>
            rw [if_pos rfl]
            have h1 : lexLt g x.2.1 = false := by
              rw [Bool.eq_false_iff]
              intro h
              have := lexLt_trans h hxf
              rw [hgf] at this
              cases this
            rw [if_neg (by rw [hgf]; simp), if_neg (by rw [h1]; simp)]
        rw [e1]
        congr 1
        show (if (upT x.2.2.1 t).length = 0 then [] else lfS t (upT x.2.2.1 t) (cutS f t (l.map toRg))) = (if x.2.2.1.length = 0 then [] else lrS t x.2.2.1 (l.map toRg))
        by_cases hxt : x.2.2.1 = []
        · rw [if_pos (show x.2.2.1.length = 0 by rw [hxt]; rfl)]
          have hl : l = [] := by
            cases l with
            | nil => rfl
            | cons y l => exact absurd hxt (hch.1 y (by simp)).1
          subst hl
          have eu : upT x.2.2.1 t = t := by unfold upT; rw [if_pos hxt]
          rw [eu]
          by_cases ht : t = []
          · rw [if_pos (by rw [ht]; rfl)]
          · rw [if_neg (fun h => ht (List.eq_nil_of_length_eq_zero h))]
            show lfS t t [] = []
            unfold lfS
            rw [if_pos (spE_self ht)]
        · have hxl : ¬ x.2.2.1.length = 0 := fun h => hxt (List.eq_nil_of_length_eq_zero h)
          have eu : upT x.2.2.1 t = clipT x.2.2.1 t := by
            unfold upT clipT
            rw [if_neg hxt]
            by_cases ht : t = []
            · rw [if_pos ht, if_neg (fun h => h.1 ht)]
            · rw [if_neg ht]
              rcases lexLt_tri t x.2.2.1 with h | h | h
              · rw [if_pos h, if_pos ⟨ht, by
                  rw [Bool.eq_false_iff]
                  intro h'
                  have := lexLt_trans h h'
                  rw [lexLt_irrefl] at this
                  cases this⟩]
              · rw [h, lexLt_irrefl]
                simp
              · rw [if_neg (by
                  intro h'
                  have := lexLt_trans h h'
                  rw [lexLt_irrefl] at this
                  cases this), if_neg (fun h' => by rw [h'.2] at h; cases h)]
          have hun : ¬ (upT x.2.2.1 t).length = 0 := fun h => by
            have := List.eq_nil_of_length_eq_zero h
            unfold upT at this
            rw [if_neg hxt] at this
            split at this
            · exact hxt this
            · rename_i ht
              split at this
              · exact ht this
              · exact hxt this
          rw [if_neg hun, if_neg hxl, eu]
          refine ih' x.2.2.1 ?_ (.inr fun y hy => (hch.1 y hy).2)
          -- f is not above where x ends
          rw [Bool.eq_false_iff]
          intro hlt
          rcases hm' with h | h
          · exact hun (by rw [h]; rfl)
          · rw [← hmx] at h
            have hfm : lexLt (if lexLt x.2.1 f = true then f else x.2.1) f = false := by
              split
              · exact lexLt_irrefl f
              · rename_i h'; simpa using h'
            have hux : lexLt x.2.2.1 (upT x.2.2.1 t) = false := by
              unfold upT
              rw [if_neg hxt]
              split
              · exact lexLt_irrefl _
              · split
                · rename_i h'
                  rw [Bool.eq_false_iff]
                  intro h''
                  have := lexLt_trans h' h''
                  rw [lexLt_irrefl] at this
                  cases this
                · exact lexLt_irrefl _
            have h1 := lt_of_lt_of_le h hux
            have h2 := lexLt_trans h1 hlt
            rw [hfm] at h2
            cases h2
theorem left_same {L : List RangeD} (h : Ok L) (f t : List Int) : lfS t f (cutS f t (L.map toRg)) = if spE f t = true then [] else lrS t f (L.map toRg) := by
  cases hs : spE f t with
  | true =>
    have hcut : ∀ l : List Rg, cutS f t l = [] := fun l => by
      induction l with
      | nil => rfl
      | cons y l ih =>
        have : spM y.f y.t f t = false := by unfold spM; rw [hs]; simp
        rw [cutS, if_neg (by rw [this]; simp)]
        exact ih
    rw [hcut, if_pos rfl]
    unfold lfS
    rw [if_pos hs]
  | false =>
    rw [if_neg (by simp)]
    have := left_go hs L f h.ne h.ch (lexLt_irrefl f) (.inl rfl)
    have e : clipT f t = f := by
      unfold clipT
      rw [if_neg]
      rintro ⟨h1, h2⟩
      have : spE f t = true := by rw [spE_eq, empty_iff]; exact ⟨h1, h2⟩
      rw [hs] at this
      cases this
    rwa [e] at this
end Go.Proofs.Ytbeniogffhihlaa
