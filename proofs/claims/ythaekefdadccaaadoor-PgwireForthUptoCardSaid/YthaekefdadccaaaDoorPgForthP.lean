/- pgwire, plainly: a client's message that was laid is read again; a beginning of it is short. No program in sight. -/
import Derived.Test.YthaekefdadccaaaDoorPgB
import Derived.Test.YthaekefdadccaaaDoorPgPieces
namespace Go.Proofs.YthaekefdadccaaaDoor
open Go.RowKit
namespace PM
theorem i32v_big4 {n : Int} (h : i32ok n = true) (r : List Int) : i32v (big4 n ++ r) = n := by
  unfold i32ok at h
  simp only [Bool.and_eq_true, decide_eq_true_eq] at h
  have e : i32v (big4 n ++ r) = (let m := ((n / 16777216 % 256 * 256 + n / 65536 % 256) * 256 + n / 256 % 256) * 256 + n % 256; if 2147483648 ≤ m then m - 4294967296 else m) := rfl
  rw [e]
  simp only
  split <;> omega
theorem ok32 {n : Int} (h0 : -2147483648 ≤ n) (h1 : n ≤ 2147483647) : i32ok n = true := by
  unfold i32ok
  simp [h0, h1]
theorem drop4_big4 (n : Int) (r : List Int) : (big4 n ++ r).drop 4 = r := rfl
/-- what was laid as parameters is read so -/
theorem params_back : ∀ (l : List (List Int × List Int)) (fuel k : Nat), l.all prmOk = true → k + l.length ≤ 32 → l.length < fuel → paramsF fuel k (prmB l ++ [0]) = (l, 0)
  | [], fuel, k, _, _, hf => by
    cases fuel with
    | zero => omega
    | succ f => simp [prmB, paramsF]
  | p :: l, fuel, k, ha, hk, hf => by
    cases fuel with
    | zero => simp at hf
    | succ f =>
      simp only [List.length_cons] at hk hf
      simp only [List.all_cons, Bool.and_eq_true] at ha
      obtain ⟨hp, hl⟩ := ha
      obtain ⟨a, b⟩ := p
      unfold prmOk at hp
      simp only [Bool.and_eq_true, Bool.not_eq_true', decide_eq_false_iff_not] at hp
      obtain ⟨hne, h0a, h0b⟩ := hp
      have za : ∀ x ∈ a, x ≠ 0 := fun x hx hx0 => by
        have := (has0_iff a).2 (hx0 ▸ hx)
        rw [this] at h0a; cases h0a
      have zb : ∀ x ∈ b, x ≠ 0 := fun x hx hx0 => by
        have := (has0_iff b).2 (hx0 ▸ hx)
        rw [this] at h0b; cases h0b
      have e : prmB ((a, b) :: l) ++ [0] = a ++ 0 :: (b ++ 0 :: (prmB l ++ [0])) := by simp [prmB]
      rw [e]
      have c1 := cut0_app (b ++ 0 :: (prmB l ++ [0])) za
      have c2 := cut0_app (prmB l ++ [0]) zb
      have ih := params_back l f (k + 1) hl (by omega) (by omega)
      cases a with
      | nil => exact absurd rfl hne
      | cons c a' =>
        have hc : c ≠ 0 := za c (by simp)
        have hk32 : k ≠ 32 := by omega
        rw [List.cons_append] at c1 ⊢
        unfold paramsF
        simp only [hc, hk32, ↓reduceIte, c1, c2, ih, ne_eq, not_true_eq_false]
/-- a message, all of it, whatever stands behind -/
theorem first_head {n : Int} {body rest : List Int} (hn : n = body.length + 4) (h8 : 4 ≤ body.length) (hm : n ≤ 10000) :
    firstS (big4 n ++ body ++ rest) = (if i32v body = 80877103 then (if n ≠ 8 then (zF, 0, 230) else ({ zF with kind := 2 }, n, 0)) else
      if i32v body = 80877102 then (if n ≠ 16 then (zF, 0, 230) else ({ zF with kind := 3, pid := i32v ((body ++ rest).drop 4), secret := i32v ((body ++ rest).drop 8) }, n, 0)) else
      if i32v body = 196608 then (if (paramsS (body.drop 4)).2 ≠ 0 then (zF, 0, (paramsS (body.drop 4)).2) else ({ zF with kind := 1, params := (paramsS (body.drop 4)).1 }, n, 0)) else (zF, 0, 232)) := by
  have e0 : i32v (big4 n ++ body ++ rest) = n := by rw [List.append_assoc]; exact i32v_big4 (ok32 (by omega) (by omega)) _
  have el : (big4 n ++ body ++ rest).length = 4 + body.length + rest.length := by simp [big4_l]; omega
  have e4 : (big4 n ++ body ++ rest).drop 4 = body ++ rest := by rw [List.append_assoc]; rfl
  have e4' : i32v (body ++ rest) = i32v body := by
    have := i32v_pre0 (b := body ++ rest) (k := body.length) h8
    rw [List.take_left] at this
    exact this.symm
  have e8 : (big4 n ++ body ++ rest).drop 8 = (body ++ rest).drop 4 := by rw [show (8 : Nat) = 4 + 4 from rfl, ← List.drop_drop, e4]
  have e12 : (big4 n ++ body ++ rest).drop 12 = (body ++ rest).drop 8 := by rw [show (12 : Nat) = 4 + 8 from rfl, ← List.drop_drop, e4]
  have et : ((big4 n ++ body ++ rest).take n.toNat).drop 8 = body.drop 4 := by
    have : n.toNat = (big4 n ++ body).length := by simp [big4_l]; omega
    rw [this, List.take_left, show (8 : Nat) = 4 + 4 from rfl, ← List.drop_drop]
    rfl
  have q1 : ¬ (big4 n ++ body ++ rest).length < 4 := by omega
  have q2 : ¬ n < 8 := by omega
  have q3 : ¬ 10000 < n := by omega
  have q4 : ¬ ((big4 n ++ body ++ rest).length : Int) < n := by omega
  unfold firstS
  simp only [q1, e0, q2, q3, q4, e4, e4', e8, e12, et, ↓reduceIte]
theorem later_head {tag n : Int} {body rest : List Int} (ht : 0 < tag ∧ tag < 128) (hn : n = body.length + 4) (hm : n ≤ 1048576) :
    laterS (tag :: (big4 n ++ body ++ rest)) = (if (bodyS tag body).2 ≠ 0 then (zF, 0, (bodyS tag body).2) else ((bodyS tag body).1, 1 + n, 0)) := by
  have e0 : i32v ((tag :: (big4 n ++ body ++ rest)).drop 1) = n := by
    rw [List.drop_succ_cons, List.drop_zero, List.append_assoc]; exact i32v_big4 (ok32 (by omega) (by omega)) _
  have el : (tag :: (big4 n ++ body ++ rest)).length = 5 + body.length + rest.length := by simp [big4_l]; omega
  have eg : (tag :: (big4 n ++ body ++ rest)).getD 0 0 = tag := rfl
  have et : ((tag :: (big4 n ++ body ++ rest)).take (1 + n).toNat).drop 5 = body := by
    have e1 : (1 + n).toNat = n.toNat + 1 := by omega
    have e2 : n.toNat = (big4 n ++ body).length := by simp [big4_l]; omega
    rw [e1, List.take_succ_cons, e2, List.take_left]
    rfl
  have q0 : ¬ (tag :: (big4 n ++ body ++ rest)).length = 0 := by omega
  have q1 : ¬ (tag = 0 ∨ 127 < tag) := by omega
  have q2 : ¬ (tag :: (big4 n ++ body ++ rest)).length < 5 := by omega
  have q3 : ¬ n < 4 := by omega
  have q4 : ¬ 1048576 < n := by omega
  have q5 : ¬ ((tag :: (big4 n ++ body ++ rest)).length : Int) - 1 < n := by omega
  unfold laterS
  simp only [q0, eg, q1, q2, e0, q3, q4, q5, et, ↓reduceIte]
theorem prmB_count (l : List (List Int × List Int)) : l.length ≤ (prmB l).length := by
  induction l with
  | nil => simp
  | cons p l ih =>
    have e : prmB (p :: l) = p.1 ++ [0] ++ p.2 ++ [0] ++ prmB l := by simp [prmB]
    rw [e]
    simp
    omega
def isStart (f : Front) : Bool := decide (f.kind = 1) || decide (f.kind = 2) || decide (f.kind = 3)
theorem tf_true (b : List Int) : takeFrontS b true = firstS b := if_pos rfl
theorem tf_false (b : List Int) : takeFrontS b false = laterS b := if_neg (by decide)
theorem isStart_t {f : Front} (h : isStart f = true) : isStart f = true := h
theorem isStart_f {f : Front} (h : isStart f = false) : isStart f = false := h
/-- what was laid is read again, whatever stands behind -/
theorem front_back {f : Front} (rest : List Int) (h : (frontMay f && f.only.like f) = true) (hl : ¬ (frontMost (frontTag f) < (frontBody f).length + 4 ∨ 32 < f.params.length)) :
    takeFrontS ((putFrontS f).1 ++ rest) (isStart f) = (f, ((putFrontS f).1.length : Int), 0) := by
  have hp : putFrontS f = ((if frontTag f = 0 then [] else [frontTag f]) ++ (big4 ((frontBody f).length + 4) ++ frontBody f), 0) := by
    unfold putFrontS; rw [h, if_neg (by decide), if_neg hl]
  rw [hp]
  simp only [Bool.and_eq_true] at h
  obtain ⟨hm, hk⟩ := h
  obtain ⟨k, ps, t, pid, sec, tag⟩ := f
  have hkind : k = 1 ∨ k = 2 ∨ k = 3 ∨ k = 4 ∨ k = 5 ∨ k = 6 := by
    unfold frontMay at hm
    simp only at hm
    by_cases h1 : k = 1; · exact .inl h1
    by_cases h2 : k = 2; · exact .inr (.inl h2)
    by_cases h3 : k = 3; · exact .inr (.inr (.inl h3))
    by_cases h4 : k = 4; · exact .inr (.inr (.inr (.inl h4)))
    by_cases h5 : k = 5; · exact .inr (.inr (.inr (.inr (.inl h5))))
    by_cases h6 : k = 6; · exact .inr (.inr (.inr (.inr (.inr h6))))
    simp [h1, h2, h3, h4, h5, h6] at hm
  rcases hkind with rfl | rfl | rfl | rfl | rfl | rfl
  all_goals simp only [Front.only, Front.like, zF, Int.reduceEq, ↓reduceIte, Bool.and_eq_true, decide_eq_true_eq, List.length_nil, true_and, and_true] at hk
  · obtain ⟨rfl, rfl, rfl, rfl⟩ := hk
    simp only [frontMost, frontTag, frontBody, Int.reduceEq, ↓reduceIte, not_or, Int.not_lt, Nat.not_lt] at hl ⊢
    simp only [frontMay, ↓reduceIte] at hm
    have hb : i32v (big4 196608 ++ prmB ps ++ [0]) = 196608 := by rw [List.append_assoc]; exact i32v_big4 (by decide) _
    have hd : (big4 196608 ++ prmB ps ++ [0]).drop 4 = prmB ps ++ [0] := by rw [List.append_assoc]; rfl
    have hpp : paramsS (prmB ps ++ [0]) = (ps, 0) := params_back ps _ 0 hm (by omega) (by have := prmB_count ps; simp; omega)
    have hh := first_head (n := ((big4 196608 ++ prmB ps ++ [0]).length : Int) + 4) (body := big4 196608 ++ prmB ps ++ [0]) (rest := rest) rfl (by simp [big4_l]) (by omega)
    rw [hb, hd, hpp] at hh
    simp only [Int.reduceEq, ↓reduceIte, ne_eq, not_true_eq_false] at hh
    rw [isStart_t rfl, tf_true, List.nil_append, hh]
    simp [zF, big4_l]
    omega
  · obtain ⟨rfl, rfl, rfl, rfl, h0⟩ := hk
    obtain rfl := List.eq_nil_of_length_eq_zero h0.symm
    have hh := first_head (n := ((big4 80877103).length : Int) + 4) (body := big4 80877103) (rest := rest) rfl (by decide) (by decide)
    have hb : i32v (big4 80877103) = 80877103 := by decide
    have h8 : ((big4 80877103).length : Int) + 4 = 8 := by decide
    rw [hb, h8] at hh
    simp only [↓reduceIte, ne_eq, not_true_eq_false] at hh
    simp only [frontTag, frontBody, Int.reduceEq, ↓reduceIte]
    rw [isStart_t rfl, tf_true, List.nil_append, h8, hh]
    rfl
  · obtain ⟨rfl, rfl, h0⟩ := hk
    obtain rfl := List.eq_nil_of_length_eq_zero h0.symm
    simp only [frontMay, Int.reduceEq, ↓reduceIte, Bool.and_eq_true] at hm
    have hb : i32v (big4 80877102 ++ big4 pid ++ big4 sec) = 80877102 := by rw [List.append_assoc]; exact i32v_big4 (by decide) _
    have hh := first_head (n := ((big4 80877102 ++ big4 pid ++ big4 sec).length : Int) + 4) (body := big4 80877102 ++ big4 pid ++ big4 sec) (rest := rest) rfl (by simp [big4_l]) (by simp [big4_l])
    have h16 : ((big4 80877102 ++ big4 pid ++ big4 sec).length : Int) + 4 = 16 := by simp [big4_l]
    have hp4 : i32v ((big4 80877102 ++ big4 pid ++ big4 sec ++ rest).drop 4) = pid := by
      rw [List.append_assoc, List.append_assoc]
      exact i32v_big4 hm.1 _
    have hp8 : i32v ((big4 80877102 ++ big4 pid ++ big4 sec ++ rest).drop 8) = sec := by
      rw [List.append_assoc, List.append_assoc]
      exact i32v_big4 hm.2 _
    rw [hb, h16, hp4, hp8] at hh
    simp only [Int.reduceEq, ↓reduceIte, ne_eq, not_true_eq_false] at hh
    simp only [frontTag, frontBody, Int.reduceEq, ↓reduceIte]
    rw [isStart_t rfl, tf_true, List.nil_append, h16, hh]
    rfl
  · obtain ⟨rfl, rfl, rfl, h0⟩ := hk
    obtain rfl := List.eq_nil_of_length_eq_zero h0.symm
    simp only [frontMost, frontTag, frontBody, Int.reduceEq, ↓reduceIte, not_or, Int.not_lt, Nat.not_lt] at hl ⊢
    simp only [frontMay, Int.reduceEq, ↓reduceIte, Bool.not_eq_true'] at hm
    have hz : ∀ x ∈ t, x ≠ 0 := fun x hx hx0 => by
      have := (has0_iff t).2 (hx0 ▸ hx)
      rw [this] at hm; cases hm
    have hc : bodyS 81 (t ++ [0]) = ({ zF with kind := 4, text := t }, 0) := by
      unfold bodyS
      rw [if_pos rfl, cut0_app [] hz]
    have hh := later_head (tag := 81) (n := ((t ++ [0]).length : Int) + 4) (body := t ++ [0]) (rest := rest) (by decide) rfl (by omega)
    rw [hc] at hh
    simp only [ne_eq, not_true_eq_false, ↓reduceIte] at hh
    rw [isStart_f rfl, tf_false]
    show laterS (81 :: (big4 _ ++ (t ++ [0]) ++ rest)) = _
    rw [hh]
    simp [zF, big4_l]
    omega
  · obtain ⟨rfl, rfl, rfl, rfl, h0⟩ := hk
    obtain rfl := List.eq_nil_of_length_eq_zero h0.symm
    have hh := later_head (tag := 88) (n := 4) (body := []) (rest := rest) (by decide) (by decide) (by decide)
    rw [isStart_f rfl, tf_false]
    show laterS (88 :: (big4 4 ++ [] ++ rest)) = _
    rw [hh]
    rfl
  · obtain ⟨rfl, rfl, rfl, h0⟩ := hk
    obtain rfl := List.eq_nil_of_length_eq_zero h0.symm
    simp only [frontMay, Int.reduceEq, ↓reduceIte, tagOk, Bool.and_eq_true, decide_eq_true_eq, Bool.not_eq_true', decide_eq_false_iff_not] at hm
    obtain ⟨⟨⟨h1, h2⟩, h3⟩, h4⟩ := hm
    have hh := later_head (tag := tag) (n := 4) (body := []) (rest := rest) ⟨h1, h2⟩ (by decide) (by decide)
    have hc : bodyS tag [] = ({ zF with kind := 6, tag := tag }, 0) := by
      unfold bodyS
      rw [if_neg h3, if_neg h4]
    rw [hc] at hh
    simp only [ne_eq, not_true_eq_false, ↓reduceIte] at hh
    have ht0 : ¬ tag = 0 := by omega
    simp only [frontTag, frontBody, Int.reduceEq, ↓reduceIte, ht0]
    rw [isStart_f rfl, tf_false]
    show laterS (tag :: (big4 4 ++ [] ++ rest)) = _
    rw [hh]
    rfl
theorem first_len (b : List Int) : (firstS b).2.2 = 0 → (firstS b).2.1 ≤ b.length := by
  unfold firstS
  repeat' split
  all_goals intro h
  all_goals first
    | (simp at h; done)
    | (simp only; omega)
theorem later_len (b : List Int) : (laterS b).2.2 = 0 → (laterS b).2.1 ≤ b.length := by
  unfold laterS
  repeat' split
  all_goals intro h
  all_goals first
    | (simp at h; done)
    | (simp only; omega)
theorem takeFront_len {b : List Int} {st : Bool} (h : (takeFrontS b st).2.2 = 0) : (takeFrontS b st).2.1 ≤ b.length := by
  cases st with
  | true => rw [tf_true] at h ⊢; exact first_len b h
  | false => rw [tf_false] at h ⊢; exact later_len b h
/-- a beginning that is not all of it is short -/
theorem front_cut {f : Front} (h : (frontMay f && f.only.like f) = true) (hl : ¬ (frontMost (frontTag f) < (frontBody f).length + 4 ∨ 32 < f.params.length)) {c : Nat} (hc : c < (putFrontS f).1.length) :
    (takeFrontS ((putFrontS f).1.take c) (isStart f)).2.2 = 10 := by
  by_cases hne : (takeFrontS ((putFrontS f).1.take c) (isStart f)).2.2 = 10
  · exact hne
  · exfalso
    have h1 := takeFront_pieces (b := (putFrontS f).1) (st := isStart f) (k := c) (by omega) hne
    have h2 := front_back (f := f) [] h hl
    rw [List.append_nil, h1] at h2
    have h3 := takeFront_len (b := (putFrontS f).1.take c) (st := isStart f) (by rw [h2])
    rw [h2, List.length_take] at h3
    simp only at h3
    omega
/-- what Put says -/
theorem put_ok' {f : Front} (h : (putFrontS f).2 = 0) : (frontMay f && f.only.like f) = true ∧ ¬ (frontMost (frontTag f) < (frontBody f).length + 4 ∨ 32 < f.params.length) ∧ 0 < (putFrontS f).1.length := by
  unfold putFrontS at h ⊢
  split at h
  · simp at h
  · rename_i h1
    split at h
    · simp at h
    · rename_i h2
      refine ⟨by simpa using h1, h2, ?_⟩
      rw [if_neg h1, if_neg h2]
      simp only [List.length_append, big4_l]
      omega
theorem put_no {f : Front} (h : (putFrontS f).2 ≠ 0) : (putFrontS f).1 = [] := by
  unfold putFrontS at h ⊢
  split
  · rfl
  · rename_i h1
    rw [if_neg h1] at h
    split
    · rfl
    · rename_i h2
      rw [if_neg h2] at h
      exact absurd rfl h
end PM
end Go.Proofs.YthaekefdadccaaaDoor
