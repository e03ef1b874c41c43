/- expr, plainly: the order of values; whether a text is like a pattern. No program in sight. -/
import Derived.Test.YtfkemeamimcnjaaDoorPmD
import Derived.Test.YtfkemeamimcnjaaDoorBytesFn
set_option linter.unusedVariables false
set_option linter.unusedSimpArgs false
namespace Go.Proofs.YtfkemeamimcnjaaDoor
open Go.RowKit
namespace PM
/-- a value -/
structure XV where
  ty : Int
  null : Bool
  n : Int
  s : List Int
def XV.c (x : XV) : List AV := [.d (.int .i64 x.ty), .d (.bool x.null), .d (.int .i64 x.n), .d (.str x.s)]
def XV.v (x : XV) : AV := .agg x.c
def cmpI (a b : Int) : Int := if a < b then -1 else if b < a then 1 else 0
theorem cmpI_rng (a b : Int) : -1 ≤ cmpI a b ∧ cmpI a b ≤ 1 := by unfold cmpI; split; omega; split <;> omega
theorem cmpI_swap (a b : Int) : cmpI b a = - cmpI a b := by unfold cmpI; split <;> split <;> omega
theorem cmpI_zero {a b : Int} : cmpI a b = 0 ↔ a = b := by unfold cmpI; split; omega; split <;> omega
def ordV (a b : XV) : Int := if a.null = true then (if b.null = true then 0 else 1) else if b.null = true then -1 else if cmpI a.ty b.ty ≠ 0 then cmpI a.ty b.ty else if cmpI a.n b.n ≠ 0 then cmpI a.n b.n else cmpB a.s b.s
theorem ordV_rng (a b : XV) : -1 ≤ ordV a b ∧ ordV a b ≤ 1 := by
  unfold ordV
  have := cmpI_rng a.ty b.ty
  have := cmpI_rng a.n b.n
  have := cmpB_rng a.s b.s
  split
  · split <;> omega
  · split
    · omega
    · split
      · omega
      · split <;> omega
theorem ordV_swap (a b : XV) : ordV b a = - ordV a b := by
  unfold ordV
  rw [cmpI_swap a.ty b.ty, cmpI_swap a.n b.n, cmpB_swap a.s b.s]
  have e : ∀ x y : Int, (if - x ≠ 0 then - x else - y) = - (if x ≠ 0 then x else y) := fun x y => by by_cases h : x = 0 <;> simp [h]
  cases a.null <;> cases b.null <;> simp only [Bool.false_eq_true, ↓reduceIte]
  · rw [e, e]
  · rfl
  · rfl
theorem cmpB_same : ∀ l : List Int, cmpB l l = 0
  | [] => rfl
  | a :: l => by simp only [cmpB]; rw [if_neg (by omega), if_neg (by omega)]; exact cmpB_same l
theorem cmpB_zero : ∀ {l m : List Int}, cmpB l m = 0 → l = m
  | [], [], _ => rfl
  | [], _ :: _, h => by simp [cmpB] at h
  | _ :: _, [], h => by simp [cmpB] at h
  | a :: x, b :: y, h => by
    simp only [cmpB] at h
    split at h
    · omega
    · split at h
      · omega
      · rw [show a = b by omega, cmpB_zero h]
theorem cmpB_trans : ∀ {l m k : List Int}, cmpB l m ≤ 0 → cmpB m k ≤ 0 → cmpB l k ≤ 0
  | [], _, [], _, _ => by simp [cmpB]
  | [], _, _ :: _, _, _ => by simp [cmpB]
  | _ :: _, [], _, h, _ => by simp [cmpB] at h
  | _ :: _, _ :: _, [], _, h => by simp [cmpB] at h
  | a :: x, b :: y, c :: z, h1, h2 => by
    simp only [cmpB] at h1 h2 ⊢
    split
    · omega
    · split at h1
      · split at h2
        · omega
        · split at h2
          · omega
          · omega
      · split at h1
        · omega
        · split at h2
          · omega
          · split at h2
            · omega
            · rw [if_neg (by omega)]
              exact cmpB_trans h1 h2
theorem ordV_same (a : XV) : ordV a a = 0 := by
  unfold ordV
  rw [cmpI_zero.2 rfl, cmpI_zero.2 rfl, cmpB_same]
  cases a.null <;> rfl
theorem ordV_zero {a b : XV} (h : ordV a b = 0) : (a.null = true ∧ b.null = true) ∨ (a.null = false ∧ b.null = false ∧ a.ty = b.ty ∧ a.n = b.n ∧ a.s = b.s) := by
  unfold ordV at h
  cases ha : a.null <;> cases hb : b.null <;> simp only [ha, hb, Bool.false_eq_true, ↓reduceIte] at h
  · right
    by_cases h1 : cmpI a.ty b.ty = 0
    · rw [if_neg (by omega)] at h
      by_cases h2 : cmpI a.n b.n = 0
      · rw [if_neg (by omega)] at h
        exact ⟨rfl, rfl, cmpI_zero.1 h1, cmpI_zero.1 h2, cmpB_zero h⟩
      · rw [if_pos (by omega)] at h; omega
    · rw [if_pos (by omega)] at h; omega
  · omega
  · omega
  · exact .inl ⟨rfl, rfl⟩
theorem ordV_congr {a b : XV} (h : ordV a b = 0) (c : XV) : ordV a c = ordV b c := by
  rcases ordV_zero h with ⟨h1, h2⟩ | ⟨h1, h2, h3, h4, h5⟩
  · unfold ordV; rw [h1, h2]; rfl
  · unfold ordV; rw [h1, h2, h3, h4, h5]
theorem ordV_trans {a b c : XV} (h1 : ordV a b ≤ 0) (h2 : ordV b c ≤ 0) : ordV a c ≤ 0 := by
  by_cases hz : ordV a b = 0
  · rw [ordV_congr hz]; exact h2
  by_cases hy : ordV b c = 0
  · have h3 := ordV_congr (a := c) (b := b) (by rw [ordV_swap, hy]; rfl) a
    rw [ordV_swap c a, h3, ← ordV_swap b a]
    have := ordV_swap a b
    have := ordV_swap b a
    omega
  unfold ordV at *
  cases ha : a.null <;> cases hb : b.null <;> cases hc : c.null <;> simp only [ha, hb, hc, Bool.false_eq_true, ↓reduceIte] at * <;> try omega
  by_cases q1 : a.ty = b.ty
  · rw [if_neg (by rw [cmpI_zero.2 q1]; omega)] at h1 hz
    rw [q1]
    by_cases q2 : b.ty = c.ty
    · rw [if_neg (by rw [cmpI_zero.2 q2]; omega)] at h2 hy ⊢
      by_cases q3 : a.n = b.n
      · rw [if_neg (by rw [cmpI_zero.2 q3]; omega)] at h1 hz
        rw [q3]
        by_cases q4 : b.n = c.n
        · rw [if_neg (by rw [cmpI_zero.2 q4]; omega)] at h2 hy ⊢
          exact cmpB_trans h1 h2
        · rw [if_pos (fun h => q4 (cmpI_zero.1 h))] at h2 ⊢
          exact h2
      · rw [if_pos (fun h => q3 (cmpI_zero.1 h))] at h1
        by_cases q4 : b.n = c.n
        · rw [← q4, if_pos (fun h => q3 (cmpI_zero.1 h))]; exact h1
        · rw [if_pos (fun h => q4 (cmpI_zero.1 h))] at h2
          unfold cmpI at h1 h2 ⊢
          split at h1 <;> split at h2 <;> try omega
    · rw [if_pos (fun h => q2 (cmpI_zero.1 h))] at h2 ⊢
      exact h2
  · rw [if_pos (fun h => q1 (cmpI_zero.1 h))] at h1
    by_cases q2 : b.ty = c.ty
    · rw [← q2, if_pos (fun h => q1 (cmpI_zero.1 h))]; exact h1
    · rw [if_pos (fun h => q2 (cmpI_zero.1 h))] at h2
      unfold cmpI at h1 h2 ⊢
      split at h1 <;> split at h2 <;> try omega
/-- the signs of a pattern: a byte; 256: one byte; 257: any bytes -/
def signs : List Int → List Int
  | [] => []
  | [c] => [if c = 37 then 257 else if c = 95 then 256 else c]
  | c :: d :: r => if c = 37 then 257 :: signs (d :: r) else if c = 95 then 256 :: signs (d :: r) else if c = 92 then d :: signs r else c :: signs (d :: r)
theorem signs_nil : signs [] = [] := by rw [signs]
theorem signs_star (r : List Int) : signs (37 :: r) = 257 :: signs r := by cases r <;> simp [signs]
theorem signs_any (r : List Int) : signs (95 :: r) = 256 :: signs r := by cases r <;> simp [signs]
theorem signs_esc (d : Int) (r : List Int) : signs (92 :: d :: r) = d :: signs r := by simp [signs]
theorem signs_last : signs [92] = [92] := by simp [signs]
theorem signs_byte {c : Int} (h1 : c ≠ 37) (h2 : c ≠ 95) (h3 : c ≠ 92) (r : List Int) : signs (c :: r) = c :: signs r := by cases r <;> simp [signs, h1, h2, h3]
def okS (s c : Int) : Bool := decide (s = 256) || decide (s = c)
/-- is a text like signs? -/
def likeM : List Int → List Int → Bool
  | [], [] => true
  | [], _ :: _ => false
  | s :: ss, [] => decide (s = 257) && likeM ss []
  | s :: ss, c :: t => if s = 257 then likeM ss (c :: t) || likeM (s :: ss) t else okS s c && likeM ss t
termination_by ss t => ss.length + t.length
theorem like_nil : ∀ ss : List Int, likeM ss [] = ss.all fun s => decide (s = 257)
  | [] => by unfold likeM; rfl
  | s :: ss => by unfold likeM; rw [like_nil ss]; rfl
theorem like_star (ss : List Int) (c : Int) (t : List Int) : likeM (257 :: ss) (c :: t) = (likeM ss (c :: t) || likeM (257 :: ss) t) := by
  rw [likeM]; simp
theorem like_step {s : Int} (h : s ≠ 257) (ss : List Int) (c : Int) (t : List Int) : likeM (s :: ss) (c :: t) = (okS s c && likeM ss t) := by
  rw [likeM]; simp [h]
theorem like_end (s : Int) (ss : List Int) : likeM (s :: ss) [] = (decide (s = 257) && likeM ss []) := by rw [likeM]
theorem like_none (c : Int) (t : List Int) : likeM [] (c :: t) = false := by rw [likeM]
/-- what stands behind a star may begin anywhere -/
theorem star_iff (ss : List Int) : ∀ t : List Int, likeM (257 :: ss) t = true ↔ ∃ m, m ≤ t.length ∧ likeM ss (t.drop m) = true
  | [] => by
    rw [like_end]
    simp
  | c :: t => by
    rw [like_star]
    simp only [Bool.or_eq_true, star_iff ss t]
    constructor
    · rintro (h | ⟨m, h1, h2⟩)
      · exact ⟨0, by simp, by simpa using h⟩
      · exact ⟨m + 1, by simpa using h1, by simpa using h2⟩
    · rintro ⟨m, h1, h2⟩
      cases m with
      | zero => exact .inl (by simpa using h2)
      | succ m => exact .inr ⟨m, by simpa using h1, by simpa using h2⟩
/-- signs without a star take one byte each -/
theorem like_app : ∀ (a b t : List Int), (∀ s ∈ a, s ≠ 257) → likeM (a ++ b) t = true → a.length ≤ t.length ∧ likeM b (t.drop a.length) = true
  | [], b, t, _, h => ⟨by simp, by simpa using h⟩
  | s :: a, b, [], ha, h => by
    rw [List.cons_append, like_end] at h
    simp [ha s (by simp)] at h
  | s :: a, b, c :: t, ha, h => by
    rw [List.cons_append, like_step (ha s (by simp))] at h
    simp only [Bool.and_eq_true] at h
    obtain ⟨h1, h2⟩ := like_app a b t (fun x hx => ha x (by simp [hx])) h.2
    exact ⟨by simpa using h1, by simpa using h2⟩
/-- where one stands in the greedy look: the text from 'at' on, the pattern from p on; behind the last star, where it is held to end -/
def Gr (T Q : List Int) (ans : Bool) (a p : Nat) (star : Option Nat) (mark : Nat) : Prop :=
  a ≤ T.length ∧ p ≤ Q.length ∧ match star with
  | none => ans = likeM (signs (Q.drop p)) (T.drop a)
  | some st => st ≤ Q.length ∧ mark ≤ a ∧ (∃ σ : List Int, (∀ s ∈ σ, s ≠ 257) ∧ signs (Q.drop st) = σ ++ signs (Q.drop p) ∧ σ.length = a - mark) ∧
      ans = (likeM (signs (Q.drop p)) (T.drop a) || (decide (mark < T.length) && likeM (257 :: signs (Q.drop st)) (T.drop (mark + 1))))
theorem dropG {α : Type} {l : List α} {n : Nat} {x : α} (h : l[n]? = some x) : l.drop n = x :: l.drop (n + 1) := by
  obtain ⟨h1, h2⟩ := List.getElem?_eq_some_iff.1 h
  rw [List.drop_eq_getElem_cons h1, h2]
theorem gr_end {T Q : List Int} {ans : Bool} {p : Nat} {star : Option Nat} {mark : Nat} (h : Gr T Q ans T.length p star mark) : ans = likeM (signs (Q.drop p)) [] := by
  obtain ⟨h1, h2, h3⟩ := h
  cases star with
  | none => simpa using h3
  | some st =>
    obtain ⟨k1, k2, ⟨σ, k3, k4, k5⟩, k6⟩ := h3
    rw [k6, List.drop_length]
    by_cases hm : mark < T.length
    · have : likeM (257 :: signs (Q.drop st)) (T.drop (mark + 1)) = false := by
        cases hq : likeM (257 :: signs (Q.drop st)) (T.drop (mark + 1)) with
        | false => rfl
        | true =>
          obtain ⟨m, q1, q2⟩ := (star_iff _ _).1 hq
          rw [k4] at q2
          obtain ⟨q3, -⟩ := like_app _ _ _ k3 q2
          simp only [List.length_drop] at q1 q3
          omega
      simp [this]
    · simp [hm]
theorem gr_star {T Q : List Int} {ans : Bool} {a p : Nat} {star : Option Nat} {mark : Nat} (h : Gr T Q ans a p star mark) (ha : a < T.length) (hp : Q[p]? = some 37) : Gr T Q ans a (p + 1) (some (p + 1)) a := by
  obtain ⟨h1, h2, h3⟩ := h
  have hl := (List.getElem?_eq_some_iff.1 hp).1
  obtain ⟨c, hc⟩ : ∃ c, T[a]? = some c := ⟨_, List.getElem?_eq_getElem ha⟩
  have e1 : signs (Q.drop p) = 257 :: signs (Q.drop (p + 1)) := by rw [dropG hp, signs_star]
  have key : ans = likeM (257 :: signs (Q.drop (p + 1))) (T.drop a) := by
    cases star with
    | none => rw [h3, e1]
    | some st =>
      obtain ⟨k1, k2, ⟨σ, k3, k4, k5⟩, k6⟩ := h3
      rw [k6, e1]
      cases hq : likeM (257 :: signs (Q.drop (p + 1))) (T.drop a) with
      | true => rfl
      | false =>
        rw [Bool.false_or]
        by_cases hm : mark < T.length
        · cases hb : likeM (257 :: signs (Q.drop st)) (T.drop (mark + 1)) with
          | false => simp
          | true =>
            exfalso
            obtain ⟨m, q1, q2⟩ := (star_iff _ _).1 hb
            rw [k4] at q2
            obtain ⟨q3, q4⟩ := like_app _ _ _ k3 q2
            rw [e1] at q4
            obtain ⟨m2, r1, r2⟩ := (star_iff _ _).1 q4
            have : likeM (257 :: signs (Q.drop (p + 1))) (T.drop a) = true := by
              rw [star_iff]
              simp only [List.length_drop, List.drop_drop] at r1 r2 q1 q3 ⊢
              refine ⟨mark + 1 + m + σ.length + m2 - a, by omega, ?_⟩
              rw [show a + (mark + 1 + m + σ.length + m2 - a) = mark + 1 + m + σ.length + m2 by omega]
              exact r2
            rw [this] at hq
            cases hq
        · simp [hm]
  refine ⟨h1, by omega, by omega, Nat.le_refl _, ⟨[], by simp, by simp, by simp⟩, ?_⟩
  rw [key, dropG hc, like_star]
  simp [ha]
/-- a sign that stands for the byte -/
theorem gr_is {T Q : List Int} {ans : Bool} {a p n : Nat} {star : Option Nat} {mark : Nat} {s c : Int} (h : Gr T Q ans a p star mark) (hc : T[a]? = some c) (hp : p + n ≤ Q.length) (hs : signs (Q.drop p) = s :: signs (Q.drop (p + n))) (h7 : s ≠ 257) (hk : okS s c = true) : Gr T Q ans (a + 1) (p + n) star mark := by
  obtain ⟨h1, h2, h3⟩ := h
  have hl := (List.getElem?_eq_some_iff.1 hc).1
  have e : likeM (signs (Q.drop p)) (T.drop a) = likeM (signs (Q.drop (p + n))) (T.drop (a + 1)) := by rw [hs, dropG hc, like_step h7, hk, Bool.true_and]
  refine ⟨by omega, hp, ?_⟩
  cases star with
  | none => rw [h3, e]
  | some st =>
    obtain ⟨k1, k2, ⟨σ, k3, k4, k5⟩, k6⟩ := h3
    refine ⟨k1, by omega, ⟨σ ++ [s], ?_, by rw [k4, hs]; simp, by simp; omega⟩, by rw [k6, e]⟩
    intro x hx
    rcases List.mem_append.1 hx with hx | hx
    · exact k3 x hx
    · simp at hx; subst hx; exact h7
/-- a sign that does not: back to the star -/
theorem gr_back {T Q : List Int} {ans : Bool} {a p st : Nat} {mark : Nat} (h : Gr T Q ans a p (some st) mark) (ha : a < T.length) (hn : likeM (signs (Q.drop p)) (T.drop a) = false) : Gr T Q ans (mark + 1) st (some st) (mark + 1) := by
  obtain ⟨h1, h2, k1, k2, ⟨σ, k3, k4, k5⟩, k6⟩ := h
  refine ⟨by omega, k1, k1, Nat.le_refl _, ⟨[], by simp, by simp, by simp⟩, ?_⟩
  rw [k6, hn, Bool.false_or]
  have hm : mark < T.length := by omega
  simp only [hm, decide_true, Bool.true_and]
  by_cases hm1 : mark + 1 < T.length
  · obtain ⟨c, hc⟩ : ∃ c, T[mark + 1]? = some c := ⟨_, List.getElem?_eq_getElem hm1⟩
    rw [dropG hc, like_star]
    simp [hm1]
  · rw [List.drop_eq_nil_of_le (show T.length ≤ mark + 1 by omega), like_end]
    simp [hm1]
theorem gr_no {T Q : List Int} {ans : Bool} {a p mark : Nat} (h : Gr T Q ans a p none mark) (hn : likeM (signs (Q.drop p)) (T.drop a) = false) : ans = false := by
  rw [h.2.2, hn]
/-- what the next sign is -/
def signS (Q : List Int) (p : Nat) (c : Int) : Int × Bool := match Q[p]? with
  | none => (0, false)
  | some d => if d = 95 then (1, true) else if d = 92 then (match Q[p + 1]? with
    | none => (1, decide (92 = c))
    | some e => (2, decide (e = c))) else (1, decide (d = c))
theorem sign_spec {Q : List Int} {p : Nat} {c : Int} (hQ : ∀ x ∈ Q, 0 ≤ x ∧ x ≤ 255) (h7 : Q[p]? ≠ some 37) (t : List Int) :
    ((signS Q p c).2 = true → ∃ s n, (signS Q p c).1 = (n : Nat) ∧ 0 < n ∧ p + n ≤ Q.length ∧ signs (Q.drop p) = s :: signs (Q.drop (p + n)) ∧ s ≠ 257 ∧ okS s c = true) ∧
    ((signS Q p c).2 = false → likeM (signs (Q.drop p)) (c :: t) = false) := by
  unfold signS
  cases hq : Q[p]? with
  | none =>
    have := List.getElem?_eq_none_iff.1 hq
    simp only
    refine ⟨fun h => (by cases h), fun _ => ?_⟩
    rw [List.drop_eq_nil_of_le this, signs_nil, like_none]
  | some d =>
    have hl := (List.getElem?_eq_some_iff.1 hq).1
    have hd := hQ d (List.mem_of_getElem? hq)
    have hd7 : d ≠ 37 := fun he => h7 (he ▸ hq)
    simp only
    rw [dropG hq]
    by_cases h1 : d = 95
    · subst h1
      simp only [↓reduceIte]
      rw [signs_any]
      exact ⟨fun _ => ⟨256, 1, rfl, by omega, by omega, rfl, by decide, by simp [okS]⟩, fun h => (by cases h)⟩
    · rw [if_neg h1]
      by_cases h2 : d = 92
      · subst h2
        rw [if_pos rfl]
        cases hq2 : Q[p + 1]? with
        | none =>
          have := List.getElem?_eq_none_iff.1 hq2
          simp only
          rw [List.drop_eq_nil_of_le this]
          rw [signs_last]
          refine ⟨fun h => ⟨92, 1, rfl, by omega, by omega, by rw [List.drop_eq_nil_of_le this, signs_nil], by decide, by simpa [okS] using h⟩, fun h => ?_⟩
          rw [like_step (by decide)]
          have : okS 92 c = false := by simpa [okS] using h
          rw [this, Bool.false_and]
        | some e =>
          have hl2 := (List.getElem?_eq_some_iff.1 hq2).1
          have he := hQ e (List.mem_of_getElem? hq2)
          simp only
          rw [dropG hq2]
          have e1 : signs (92 :: e :: Q.drop (p + 1 + 1)) = e :: signs (Q.drop (p + 2)) := signs_esc _ _
          rw [e1]
          refine ⟨fun h => ⟨e, 2, rfl, by omega, by omega, rfl, by omega, by unfold okS; rw [h]; simp⟩, fun h => ?_⟩
          rw [like_step (by omega)]
          have : okS e c = false := by unfold okS; rw [h]; simp; omega
          rw [this, Bool.false_and]
      · rw [if_neg h2]
        have e1 : signs (d :: Q.drop (p + 1)) = d :: signs (Q.drop (p + 1)) := signs_byte hd7 h1 h2 _
        rw [e1]
        simp only
        refine ⟨fun h => ⟨d, 1, rfl, by omega, by omega, rfl, by omega, by unfold okS; rw [h]; simp⟩, fun h => ?_⟩
        rw [like_step (by omega)]
        have : okS d c = false := by unfold okS; rw [h]; simp; omega
        rw [this, Bool.false_and]
theorem signs_all : ∀ r : List Int, (∀ x ∈ r, 0 ≤ x ∧ x ≤ 255) → likeM (signs r) [] = r.all fun c => decide (c = 37)
  | [], _ => by rw [signs_nil, like_nil]; rfl
  | c :: r, hr => by
    have hc := hr c (by simp)
    rw [like_nil]
    by_cases h : c = 37
    · subst h
      rw [signs_star]
      have ih := signs_all r (fun x hx => hr x (by simp [hx]))
      rw [like_nil] at ih
      simp [ih]
    · have : (signs (c :: r)).all (fun s => decide (s = 257)) = false := by
        by_cases h1 : c = 95
        · subst h1; rw [signs_any]; simp
        · by_cases h2 : c = 92
          · subst h2
            cases r with
            | nil => rw [signs_last]; simp
            | cons d r' =>
              have hd := hr d (by simp)
              rw [signs_esc]
              have : decide (d = 257) = false := by simp; omega
              rw [List.all_cons, this, Bool.false_and]
          · rw [signs_byte h h1 h2]
            have : decide (c = 257) = false := by simp; omega
            rw [List.all_cons, this, Bool.false_and]
      rw [this]
      simp [h]
theorem star_skip {ss t : List Int} (h : likeM ss t = true) : likeM (257 :: ss) t = true := by
  cases t with
  | nil => rw [like_end, h]; rfl
  | cons c t => rw [like_star, h]; rfl
/-- from one of the places one gets to the end -/
def Acc (S : List Int) (now : List Bool) (t : List Int) : Prop := ∃ j, j ≤ S.length ∧ now[j]? = some true ∧ likeM (S.drop j) t = true
/-- behind a star stands the next place too -/
def Closed (S : List Int) (k : Nat) (now : List Bool) : Prop := ∀ j, j < k → now[j]? = some true → S[j]? = some 257 → now[j + 1]? = some true
theorem ini_acc {S : List Int} {now : List Bool} {k : Nat} (hk : k ≤ S.length) (h1 : ∀ j, j ≤ S.length → (now[j]? = some true ↔ j ≤ k)) (h2 : ∀ j, j < k → S[j]? = some 257) (h3 : S[k]? ≠ some 257) : Closed S S.length now ∧ ∀ t, Acc S now t ↔ likeM S t = true := by
  refine ⟨fun j hj hn hs => ?_, fun t => ⟨?_, fun h => ⟨0, by omega, (h1 0 (by omega)).2 (by omega), by simpa using h⟩⟩⟩
  · have := (h1 j (by omega)).1 hn
    refine (h1 (j + 1) (by omega)).2 ?_
    rcases Nat.lt_or_ge j k with h | h
    · omega
    · have : j = k := by omega
      subst this
      exact absurd hs h3
  · rintro ⟨j, hj, hn, hl⟩
    have hjk := (h1 j hj).1 hn
    clear hn hj
    induction j with
    | zero => simpa using hl
    | succ j ih =>
      refine ih ?_ (by omega)
      rw [dropG (h2 j (by omega))]
      exact star_skip hl
/-- what a byte leaves -/
def StepA (S : List Int) (now : List Bool) (c : Int) (k : Nat) (next : List Bool) : Prop := ∀ j, j ≤ S.length → (next[j]? = some true ↔ (j < k ∧ now[j]? = some true ∧ S[j]? = some 257) ∨ (∃ i s, j = i + 1 ∧ i < k ∧ now[i]? = some true ∧ S[i]? = some s ∧ okS s c = true))
theorem stepA_0 {S : List Int} {now next : List Bool} {c : Int} (h : ∀ j : Nat, j ≤ S.length → next[j]? ≠ some true) : StepA S now c 0 next := fun j hj => ⟨fun h1 => absurd h1 (h j hj), fun h1 => by rcases h1 with h1 | ⟨i, s, _, h1, _⟩ <;> omega⟩
theorem set_true {l : List Bool} {i j : Nat} (hi : i < l.length) : (l.set i true)[j]? = some true ↔ j = i ∨ l[j]? = some true := by
  rw [List.getElem?_set]
  by_cases h : i = j
  · subst h; simp [hi]
  · simp [h]; omega
theorem stepA_n {S : List Int} {now next : List Bool} {c : Int} {k : Nat} {s : Int} (hl : next.length = S.length + 1) (hs : S[k]? = some s) (h : StepA S now c k next) {a b : Bool} (ha : a = true ↔ now[k]? = some true ∧ s = 257) (hb : b = true ↔ now[k]? = some true ∧ okS s c = true) :
    StepA S now c (k + 1) (if b = true then (if a = true then next.set k true else next).set (k + 1) true else (if a = true then next.set k true else next)) := by
  have hk := (List.getElem?_eq_some_iff.1 hs).1
  have e1 : ∀ j, (if a = true then next.set k true else next)[j]? = some true ↔ (a = true ∧ j = k) ∨ next[j]? = some true := fun j => by
    cases a
    · simp
    · simp only [↓reduceIte, true_and]; rw [set_true (by omega)]
  have e2 : ∀ j, (if b = true then (if a = true then next.set k true else next).set (k + 1) true else (if a = true then next.set k true else next))[j]? = some true ↔ (b = true ∧ j = k + 1) ∨ (a = true ∧ j = k) ∨ next[j]? = some true := fun j => by
    cases b
    · simp only [Bool.false_eq_true, ↓reduceIte, false_and, false_or]; exact e1 j
    · simp only [↓reduceIte, true_and]; rw [set_true (by cases a <;> simp <;> omega), e1]
  intro j hj
  rw [e2, h j hj, ha, hb]
  constructor
  · rintro (⟨⟨h1, h2⟩, rfl⟩ | ⟨⟨h1, rfl⟩, rfl⟩ | ⟨h1, h2, h3⟩ | ⟨i, s', rfl, h1, h2, h3, h4⟩)
    · exact .inr ⟨k, s, rfl, by omega, h1, hs, h2⟩
    · exact .inl ⟨by omega, h1, hs⟩
    · exact .inl ⟨by omega, h2, h3⟩
    · exact .inr ⟨i, s', rfl, by omega, h2, h3, h4⟩
  · rintro (⟨h1, h2, h3⟩ | ⟨i, s', rfl, h1, h2, h3, h4⟩)
    · by_cases hjk : j = k
      · subst hjk; rw [hs] at h3; cases h3; exact .inr (.inl ⟨⟨h2, rfl⟩, rfl⟩)
      · exact .inr (.inr (.inl ⟨by omega, h2, h3⟩))
    · by_cases hik : i = k
      · subst hik; rw [hs] at h3; cases h3; exact .inl ⟨⟨h2, h4⟩, rfl⟩
      · exact .inr (.inr (.inr ⟨i, s', rfl, by omega, h2, h3, h4⟩))
theorem stepA_acc {S : List Int} {now next : List Bool} {c : Int} (hc : c ≤ 255) (h : StepA S now c S.length next) (hcl : Closed S S.length now) (t : List Int) : Acc S next t ↔ Acc S now (c :: t) := by
  constructor
  · rintro ⟨j, hj, hn, hl⟩
    rcases (h j hj).1 hn with ⟨h1, h2, h3⟩ | ⟨i, s, rfl, h1, h2, h3, h4⟩
    · refine ⟨j, hj, h2, ?_⟩
      rw [dropG h3] at hl ⊢
      rw [like_star, hl]
      simp
    · refine ⟨i, by omega, h2, ?_⟩
      rw [dropG h3]
      by_cases h7 : s = 257
      · subst h7; simp [okS] at h4; omega
      · rw [like_step h7, h4, hl]; rfl
  · rintro ⟨j, hj, hn, hl⟩
    obtain ⟨d, hd⟩ : ∃ d, d = S.length - j := ⟨_, rfl⟩
    induction d generalizing j with
    | zero =>
      have : j = S.length := by omega
      subst this
      rw [List.drop_length, like_none] at hl
      cases hl
    | succ d ih =>
      have hlt : j < S.length := by omega
      obtain ⟨s, hs⟩ : ∃ s, S[j]? = some s := ⟨_, List.getElem?_eq_getElem hlt⟩
      rw [dropG hs] at hl
      by_cases h7 : s = 257
      · subst h7
        rw [like_star] at hl
        simp only [Bool.or_eq_true] at hl
        rcases hl with hl | hl
        · exact ih (j + 1) (by omega) (hcl j hlt hn hs) hl (by omega)
        · exact ⟨j, hj, (h j hj).2 (.inl ⟨hlt, hn, hs⟩), by rw [dropG hs]; exact hl⟩
      · rw [like_step h7] at hl
        simp only [Bool.and_eq_true] at hl
        exact ⟨j + 1, by omega, (h (j + 1) (by omega)).2 (.inr ⟨j, s, rfl, hlt, hn, hs, hl.1⟩), hl.2⟩
theorem stepB_n {S : List Int} {next : List Bool} {k : Nat} {s : Int} (hl : next.length = S.length + 1) (hs : S[k]? = some s) (h : Closed S k next) {a : Bool} (ha : a = true ↔ next[k]? = some true ∧ s = 257) :
    Closed S (k + 1) (if a = true then next.set (k + 1) true else next) ∧ ∀ t, Acc S (if a = true then next.set (k + 1) true else next) t ↔ Acc S next t := by
  have hk := (List.getElem?_eq_some_iff.1 hs).1
  cases a with
  | false =>
    simp only [Bool.false_eq_true, ↓reduceIte]
    refine ⟨fun j hj hn h7 => ?_, fun _ => trivial⟩
    by_cases hjk : j = k
    · subst hjk
      rw [hs] at h7
      cases h7
      exact absurd (ha.2 ⟨hn, rfl⟩) (by simp)
    · exact h j (by omega) hn h7
  | true =>
    obtain ⟨h1, rfl⟩ := ha.1 rfl
    simp only [↓reduceIte]
    refine ⟨fun j hj hn h7 => ?_, fun t => ⟨?_, ?_⟩⟩
    · rw [set_true (by omega)] at hn ⊢
      rcases hn with rfl | hn
      · omega
      · by_cases hjk : j = k
        · exact .inl (by omega)
        · exact .inr (h j (by omega) hn h7)
    · rintro ⟨j, hj, hn, hq⟩
      rw [set_true (by omega)] at hn
      rcases hn with rfl | hn
      · exact ⟨k, by omega, h1, by rw [dropG hs]; exact star_skip hq⟩
      · exact ⟨j, hj, hn, hq⟩
    · rintro ⟨j, hj, hn, hq⟩
      exact ⟨j, hj, by rw [set_true (by omega)]; exact .inr hn, hq⟩
theorem acc_end {S : List Int} {now : List Bool} (hcl : Closed S S.length now) : Acc S now [] ↔ now[S.length]? = some true := by
  constructor
  · rintro ⟨j, hj, hn, hl⟩
    obtain ⟨d, hd⟩ : ∃ d, d = S.length - j := ⟨_, rfl⟩
    induction d generalizing j with
    | zero =>
      have : j = S.length := by omega
      subst this
      exact hn
    | succ d ih =>
      have hlt : j < S.length := by omega
      obtain ⟨s, hs⟩ : ∃ s, S[j]? = some s := ⟨_, List.getElem?_eq_getElem hlt⟩
      rw [dropG hs, like_end] at hl
      simp only [Bool.and_eq_true, decide_eq_true_eq] at hl
      obtain ⟨rfl, hl⟩ := hl
      exact ih (j + 1) (by omega) (hcl j hlt hn hs) hl (by omega)
  · intro h
    exact ⟨S.length, Nat.le_refl _, h, by rw [List.drop_length, like_nil]; rfl⟩
end PM
end Go.Proofs.YtfkemeamimcnjaaDoor
