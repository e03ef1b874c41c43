/- rangemeta: ranges that hold all keys, plain. -/
import Derived.Test.YtbeniogffhihlaaRmGood
set_option linter.unusedVariables false
set_option linter.unusedSimpArgs false
namespace Go.Proofs.Ytbeniogffhihlaa
open Go.RowKit
theorem lexLt_trans : ∀ {a b c : List Int}, lexLt a b = true → lexLt b c = true → lexLt a c = true
  | _, [], _, h, _ => by unfold lexLt at h; cases h
  | _, _ :: _, [], _, h => by unfold lexLt at h; cases h
  | [], _ :: _, _ :: _, _, _ => rfl
  | x :: a, y :: b, z :: c, h1, h2 => by
    simp only [lexLt, Bool.or_eq_true, Bool.and_eq_true, decide_eq_true_eq] at h1 h2 ⊢
    rcases h1 with h1 | ⟨rfl, h1⟩
    · rcases h2 with h2 | ⟨rfl, h2⟩
      · exact .inl (by omega)
      · exact .inl h1
    · rcases h2 with h2 | ⟨rfl, h2⟩
      · exact .inl h2
      · exact .inr ⟨rfl, lexLt_trans h1 h2⟩
theorem lexLt_tri : ∀ (a b : List Int), lexLt a b = true ∨ a = b ∨ lexLt b a = true
  | [], [] => .inr (.inl rfl)
  | [], _ :: _ => .inl rfl
  | _ :: _, [] => .inr (.inr rfl)
  | x :: a, y :: b => by
    simp only [lexLt, Bool.or_eq_true, Bool.and_eq_true, decide_eq_true_eq, List.cons.injEq]
    rcases Int.lt_trichotomy x y with h | h | h
    · exact .inl (.inl h)
    · subst h
      rcases lexLt_tri a b with h | h | h
      · exact .inl (.inr ⟨rfl, h⟩)
      · exact .inr (.inl ⟨rfl, h⟩)
      · exact .inr (.inr (.inr ⟨rfl, h⟩))
    · exact .inr (.inr (.inl h))
theorem lexLt_nil {a : List Int} (h : a ≠ []) : lexLt [] a = true := by
  cases a with
  | nil => exact absurd rfl h
  | cons x a => rfl
theorem lexLt_none (a : List Int) : lexLt a [] = false := by cases a <;> rfl
/-- places among finitely many -/
theorem ranked (S : List (List Int)) : ∃ r : List Int → Nat, (∀ x y, x ∈ S → (lexLt x y = true ↔ r x < r y)) := by
  refine ⟨fun x => (S.filter fun z => lexLt z x).length, fun x y hx => ?_⟩
  have sub : ∀ a b : List Int, (lexLt a b = true ∨ a = b) → (S.filter fun z => lexLt z a).length ≤ (S.filter fun z => lexLt z b).length := fun a b h => by
    rw [← List.countP_eq_length_filter, ← List.countP_eq_length_filter]
    refine List.countP_mono_left fun z _ hz => ?_
    rcases h with h | rfl
    · exact lexLt_trans hz h
    · exact hz
  constructor
  · intro h
    show (S.filter fun z => lexLt z x).length < (S.filter fun z => lexLt z y).length
    rw [← List.countP_eq_length_filter, ← List.countP_eq_length_filter]
    have key : ∀ T : List (List Int), x ∈ T → T.countP (fun z => lexLt z x) < T.countP (fun z => lexLt z y) := fun T => by
      induction T with
      | nil => intro hm; cases hm
      | cons z T ih =>
        intro hm
        have mono : T.countP (fun z => lexLt z x) ≤ T.countP (fun z => lexLt z y) := List.countP_mono_left fun z _ hz => lexLt_trans hz h
        simp only [List.countP_cons]
        rcases List.mem_cons.1 hm with rfl | hm
        · rw [lexLt_irrefl, h]
          simp
          omega
        · have := ih hm
          by_cases hz : lexLt z x = true
          · rw [hz, lexLt_trans hz h]
            simpa using this
          · rw [if_neg hz]
            split <;> omega
    exact key S hx
  · intro h
    replace h : (S.filter fun z => lexLt z x).length < (S.filter fun z => lexLt z y).length := h
    rcases lexLt_tri x y with h' | rfl | h'
    · exact h'
    · omega
    · have := sub y x (.inl h')
      omega
namespace Rm
/-- ranges that hold all keys from lo on -/
def Ch : List Int → List RangeD → Prop
  | _, [] => False
  | lo, x :: l => x.2.1 = lo ∧ ((l = [] ∧ x.2.2.1 = []) ∨ (x.2.2.1 ≠ [] ∧ lexLt lo x.2.2.1 = true ∧ Ch x.2.2.1 l))
theorem ch_new : Ch [] [(1, [], [], 1)] := ⟨rfl, .inl ⟨rfl, rfl⟩⟩
theorem holds_iff (f t k : List Int) : holdsB (f, t) k = true ↔ lexLt k f = false ∧ (t = [] ∨ lexLt k t = true) := by
  unfold holdsB
  rw [cmpB_nneg, cmpB_neg]
  cases t <;> simp
theorem empty_iff (f t : List Int) : emptyB (f, t) = true ↔ t ≠ [] ∧ lexLt f t = false := by
  unfold emptyB
  rw [cmpB_npos]
  cases t with
  | nil => simp
  | cons y t =>
    simp only [List.length_cons, Nat.zero_lt_succ, decide_true, Bool.true_and, Bool.or_eq_true, decide_eq_true_eq, ne_eq, reduceCtorEq, not_false_eq_true, true_and]
    constructor
    · rintro (h | rfl)
      · cases hh : lexLt f (y :: t)
        · rfl
        · have := lexLt_trans h hh
          rw [lexLt_irrefl] at this
          cases this
      · exact lexLt_irrefl _
    · intro h
      rcases lexLt_tri f (y :: t) with h' | h' | h'
      · rw [h] at h'; cases h'
      · exact .inr h'.symm
      · exact .inl h'
theorem ch_split {id other : Int} {key : List Int} {r : RangeD} (hh : holdsB (r.2.1, r.2.2.1) key = true) (hne : key ≠ r.2.1) : ∀ (l : List RangeD) (lo : List Int) (k : Nat), Ch lo l → l[k]? = some r → Ch lo (splitL l k r id other key)
  | [], _, _, h, _ => h.elim
  | x :: l, lo, 0, h, hr => by
    simp only [List.getElem?_cons_zero, Option.some.injEq] at hr
    subst hr
    obtain ⟨h1, h2⟩ := h
    obtain ⟨h3, h4⟩ := (holds_iff _ _ _).1 hh
    have hlt : lexLt x.2.1 key = true := by
      rcases lexLt_tri x.2.1 key with h | h | h
      · exact h
      · exact absurd h.symm hne
      · rw [h3] at h; cases h
    have hkn : key ≠ [] := by
      rintro rfl
      rw [lexLt_none] at hlt
      cases hlt
    unfold splitL
    simp only [List.take_zero, List.nil_append, Nat.zero_add, List.drop_succ_cons, List.drop_zero, List.cons_append]
    refine ⟨h1, .inr ⟨hkn, by rw [← h1]; exact hlt, rfl, ?_⟩⟩
    rcases h2 with ⟨h5, h6⟩ | ⟨h5, h6, h7⟩
    · exact .inl ⟨h5, h6⟩
    · refine .inr ⟨h5, ?_, h7⟩
      rcases h4 with h4 | h4
      · exact absurd h4 h5
      · exact h4
  | x :: l, lo, k + 1, h, hr => by
    simp only [List.getElem?_cons_succ] at hr
    obtain ⟨h1, h2⟩ := h
    have e : splitL (x :: l) (k + 1) r id other key = x :: splitL l k r id other key := by
      unfold splitL
      simp
    rw [e]
    rcases h2 with ⟨h5, h6⟩ | ⟨h5, h6, h7⟩
    · subst h5
      cases hr
    · exact ⟨h1, .inr ⟨h5, h6, ch_split hh hne l _ k h7 hr⟩⟩
theorem ch_splitR {l : List RangeD} {id other : Int} {key lo : List Int} (h : Ch lo l) : Ch lo (splitR l id other key) := by
  by_cases he : splitE l id other key = 0
  · obtain ⟨k, r, -, -, h3, -, h5, -, h7, h8, -⟩ := splitE_zero he
    rw [h5]
    exact ch_split h7 h8 l lo k h h3
  · unfold splitR
    rw [if_neg he]
    exact h
theorem ch_below {key : List Int} : ∀ {l : List RangeD} {lo : List Int}, Ch lo l → lexLt key lo = true → l.countP (fun x => holdsB (x.2.1, x.2.2.1) key) = 0
  | [], _, h, _ => h.elim
  | x :: l, lo, ⟨h1, h2⟩, hk => by
    rw [List.countP_cons]
    have hx : holdsB (x.2.1, x.2.2.1) key = false := by
      rw [Bool.eq_false_iff]
      intro h
      have := ((holds_iff _ _ _).1 h).1
      rw [h1, hk] at this
      cases this
    rw [hx]
    rcases h2 with ⟨rfl, -⟩ | ⟨-, h5, h6⟩
    · rfl
    · rw [ch_below h6 (lexLt_trans hk h5)]
      rfl
theorem ch_one {key : List Int} : ∀ {l : List RangeD} {lo : List Int}, Ch lo l → lexLt key lo = false → l.countP (fun x => holdsB (x.2.1, x.2.2.1) key) = 1
  | [], _, h, _ => h.elim
  | x :: l, lo, ⟨h1, h2⟩, hk => by
    rw [List.countP_cons]
    rcases h2 with ⟨rfl, h3⟩ | ⟨h4, h5, h6⟩
    · rw [(holds_iff x.2.1 x.2.2.1 key).2 ⟨by rw [h1]; exact hk, .inl h3⟩]
      rfl
    · by_cases hx : lexLt key x.2.2.1 = true
      · rw [(holds_iff x.2.1 x.2.2.1 key).2 ⟨by rw [h1]; exact hk, .inr hx⟩, ch_below h6 hx]
        rfl
      · have hf : holdsB (x.2.1, x.2.2.1) key = false := by
          rw [Bool.eq_false_iff]
          intro h
          rcases ((holds_iff _ _ _).1 h).2 with h' | h'
          · exact h4 h'
          · exact hx h'
        rw [hf, ch_one h6 (Bool.eq_false_iff.2 hx)]
        rfl
/-- parts, one behind the other, from f to t -/
def Ps : List Int → List Int → List PartD → Prop
  | _, _, [] => False
  | f, t, q :: l => q.2.1 = f ∧ ((l = [] ∧ q.2.2 = t) ∨ (q.2.2 ≠ [] ∧ Ps q.2.2 t l))
theorem cmpB_pos (l m : List Int) : (0 < cmpB l m) ↔ lexLt m l = true := by
  rw [cmpB_eq]
  rcases lexLt_tri l m with h | rfl | h
  · rw [if_pos h]
    constructor
    · intro h; omega
    · intro h'
      have := lexLt_trans h h'
      rw [lexLt_irrefl] at this
      cases this
  · rw [lexLt_irrefl]
    simp
  · have h1 : lexLt l m = false := by
      rw [Bool.eq_false_iff]
      intro h'
      have := lexLt_trans h h'
      rw [lexLt_irrefl] at this
      cases this
    have h2 : l ≠ m := by
      rintro rfl
      rw [lexLt_irrefl] at h
      cases h
    rw [h1, if_neg (by simp), if_neg h2, h]
    simp
theorem cutL_cons (x : RangeD) (l : List RangeD) (p : SpanD) : cutL (x :: l) p = (if meetB (x.2.1, x.2.2.1) p = true then [(x, shareD (x.2.1, x.2.2.1) p)] else []) ++ cutL l p := by
  unfold cutL
  rw [List.filter_cons]
  split <;> simp
def upT (t pt : List Int) : List Int := if t = [] then pt else if pt = [] then t else if lexLt pt t = true then pt else t
theorem share_eq (lo t pf pt : List Int) : shareD (lo, t) (pf, pt) = (if lexLt lo pf = true then pf else lo, upT t pt) := by
  unfold shareD upT
  simp only [cmpB_pos, List.length_eq_zero_iff]
  have e : (cmpB pt t < 0) ↔ lexLt pt t = true := by rw [← cmpB_neg]; simp
  simp only [e]
theorem meet_iff (lo t pf pt : List Int) (h1 : t = [] ∨ lexLt lo t = true) (h2 : emptyB (pf, pt) = false) : meetB (lo, t) (pf, pt) = true ↔ upT t pt = [] ∨ lexLt (if lexLt lo pf = true then pf else lo) (upT t pt) = true := by
  unfold meetB
  rw [share_eq, h2]
  have h3 : emptyB (lo, t) = false := by
    rw [Bool.eq_false_iff]
    intro h
    obtain ⟨a, b⟩ := (empty_iff _ _).1 h
    rcases h1 with h1 | h1
    · exact a h1
    · rw [b] at h1; cases h1
  rw [h3]
  simp only [Bool.not_false, Bool.true_and, Bool.not_eq_true']
  rw [Bool.eq_false_iff, ne_eq, empty_iff]
  cases upT t pt with
  | nil => simp
  | cons y u => simp
end Rm
end Go.Proofs.Ytbeniogffhihlaa
