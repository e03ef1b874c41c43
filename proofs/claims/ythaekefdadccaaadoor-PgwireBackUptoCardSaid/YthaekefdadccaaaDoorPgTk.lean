/- pgwire, plainly: a server's message is read. No program in sight. pgwire, plainly: a server's message is read, as the reference does; both read the same. No program in sight. pgwire, plainly: what is read of short bytes is short. No program in sight. -/
import Derived.Test.YthaekefdadccaaaDoorPgBk
import Derived.Test.YthaekefdadccaaaDoorPg2
import Derived.Test.YthaekefdadccaaaDoorPgForthP
import Derived.Test.YthaekefdadccaaaDoorPgRS
namespace Go.Proofs.YthaekefdadccaaaDoor
open Go.RowKit
namespace PM
def typN (n : Int) : Int := if n = 20 then 1 else if n = 16 then 2 else if n = 25 then 3 else 0
/-- a column off the front -/
def readFld (b : List Int) (bad : Bool) : (List Int × Int) × List Int × Bool :=
  (((pgText b bad).1, typN (pgNum (pgTake (pgText b bad).2.1 (pgText b bad).2.2 6).2.1 (pgTake (pgText b bad).2.1 (pgText b bad).2.2 6).2.2).1),
    (pgTake (pgNum (pgTake (pgText b bad).2.1 (pgText b bad).2.2 6).2.1 (pgTake (pgText b bad).2.1 (pgText b bad).2.2 6).2.2).2.1 (pgNum (pgTake (pgText b bad).2.1 (pgText b bad).2.2 6).2.1 (pgTake (pgText b bad).2.1 (pgText b bad).2.2 6).2.2).2.2 8).2)
def fldsR : Nat → List Int → Bool → List (List Int × Int)
  | 0, _, _ => []
  | f + 1, b, bad => if bad = true ∨ b = [] then [] else (readFld b false).1 :: fldsR f (readFld b false).2.1 (readFld b false).2.2
/-- a cell off the front -/
def readCel (b : List Int) : (Bool × List Int) × List Int × Bool :=
  if (pgNum b false).1 < 0 then ((true, []), (pgNum b false).2) else ((false, (pgTake (pgNum b false).2.1 (pgNum b false).2.2 (pgNum b false).1).1), (pgTake (pgNum b false).2.1 (pgNum b false).2.2 (pgNum b false).1).2)
def celsR : Nat → List Int → Bool → List (Bool × List Int)
  | 0, _, _ => []
  | f + 1, b, bad => if bad = true ∨ b = [] then [] else (readCel b).1 :: celsR f (readCel b).2.1 (readCel b).2.2
/-- without this at its head -/
def dropPre (l p : List Int) : List Int := if l.take p.length = p then l.drop p.length else l
def toldS (k : Int) (b : List Int) : Back :=
  if k = 3 then { zB with kind := 3, pid := (pgNum b false).1, secret := (pgNum (pgNum b false).2.1 (pgNum b false).2.2).1 } else
  if k = 4 then { zB with kind := 4, status := if (pgTake b false 1).1.length = 1 then (pgTake b false 1).1.getD 0 0 else 0 } else
  if k = 5 then { zB with kind := 5, fields := fldsR ((pgTake b false 2).2.1.length + 1) (pgTake b false 2).2.1 (pgTake b false 2).2.2 } else
  if k = 6 then { zB with kind := 6, cells := celsR ((pgTake b false 2).2.1.length + 1) (pgTake b false 2).2.1 (pgTake b false 2).2.2 } else
  if k = 2 then { zB with kind := 2, name := (pgText b false).1, text := (pgText (pgText b false).2.1 (pgText b false).2.2).1 } else
  if k = 7 then { zB with kind := 7, text := (pgText b false).1 } else
  if k = 9 then (let t1 := pgText b false; let t2 := pgText t1.2.1 t1.2.2; let t3 := pgText t2.2.1 t2.2.2; let t4 := pgText t3.2.1 t3.2.2
    { zB with kind := 9, fatal := decide (t1.1 = [83, 70, 65, 84, 65, 76]), state := dropPre t3.1 [67], text := dropPre t4.1 [77] }) else { zB with kind := k }
theorem pgTake_bad (b : List Int) (n : Int) : (pgTake b true n).2.2 = true := by unfold pgTake; split <;> rfl
theorem pgNum_bad (b : List Int) : (pgNum b true).2.2 = true := by unfold pgNum; split <;> rfl
theorem pgTake_le (b : List Int) (bad : Bool) (n : Int) : (pgTake b bad n).2.1.length ≤ b.length := (pgTake_len b bad n).2
theorem pgNum_le (b : List Int) (bad : Bool) : (pgNum b bad).2.1.length ≤ b.length := by unfold pgNum; split <;> simp
theorem readFld_less (b : List Int) : (readFld b false).2.2 = true ∨ (readFld b false).2.1.length < b.length := by
  cases h : cut0 b with
  | none =>
    left
    have e : pgText b false = ([], b, true) := by unfold pgText; rw [h]
    unfold readFld
    rw [e]
    simp only
    rw [pgTake_bad]
    rw [pgNum_bad]
    exact pgTake_bad _ _
  | some p =>
    obtain ⟨a, r⟩ := p
    right
    have e : pgText b false = (a, r, false) := by unfold pgText; rw [h]; rfl
    have hl := cut0_len h
    unfold readFld
    rw [e]
    simp only
    have h1 := pgTake_le r false 6
    have h2 := pgNum_le (pgTake r false 6).2.1 (pgTake r false 6).2.2
    have h3 := pgTake_le (pgNum (pgTake r false 6).2.1 (pgTake r false 6).2.2).2.1 (pgNum (pgTake r false 6).2.1 (pgTake r false 6).2.2).2.2 8
    omega
theorem readCel_less (b : List Int) (_hb : b ≠ []) : (readCel b).2.2 = true ∨ (readCel b).2.1.length < b.length := by
  by_cases h : b.length < 4
  · have e : pgNum b false = (0, b, true) := if_pos h
    left
    unfold readCel
    rw [e]
    simp only [Int.lt_irrefl, ↓reduceIte]
    exact pgTake_bad _ _
  · have e : pgNum b false = (i32v b, b.drop 4, false) := if_neg h
    right
    have h1 := pgTake_le (b.drop 4) false (i32v b)
    unfold readCel
    rw [e]
    simp only
    split
    · simp only [List.length_drop]; omega
    · simp only [List.length_drop] at h1 ⊢; omega
theorem fldsR_fuel : ∀ (f g : Nat) (b : List Int) (bad : Bool), b.length < f → b.length < g → fldsR f b bad = fldsR g b bad
  | 0, _, _, _, h, _ => by omega
  | _ + 1, 0, _, _, _, h => by omega
  | f + 1, g + 1, b, bad, hf, hg => by
    unfold fldsR
    split
    · rfl
    · congr 1
      rcases readFld_less b with h | h
      · rw [h]
        cases f <;> cases g <;> simp [fldsR]
      · exact fldsR_fuel f g _ _ (by omega) (by omega)
theorem celsR_fuel : ∀ (f g : Nat) (b : List Int) (bad : Bool), b.length < f → b.length < g → celsR f b bad = celsR g b bad
  | 0, _, _, _, h, _ => by omega
  | _ + 1, 0, _, _, _, h => by omega
  | f + 1, g + 1, b, bad, hf, hg => by
    unfold celsR
    split
    · rfl
    · rename_i hq
      congr 1
      rcases readCel_less b (fun h => hq (.inr h)) with h | h
      · rw [h]
        cases f <;> cases g <;> simp [celsR]
      · exact celsR_fuel f g _ _ (by omega) (by omega)
/-- the columns that come of what is left -/
def fldsL (b : List Int) (bad : Bool) : List (List Int × Int) := fldsR (b.length + 1) b bad
def celsL (b : List Int) (bad : Bool) : List (Bool × List Int) := celsR (b.length + 1) b bad
theorem fldsL_end {b : List Int} {bad : Bool} (h : bad = true ∨ b = []) : fldsL b bad = [] := by unfold fldsL fldsR; rw [if_pos h]
theorem fldsL_next {b : List Int} (h : b ≠ []) : fldsL b false = (readFld b false).1 :: fldsL (readFld b false).2.1 (readFld b false).2.2 := by
  have : fldsL b false = (readFld b false).1 :: fldsR b.length (readFld b false).2.1 (readFld b false).2.2 := by
    show fldsR (b.length + 1) b false = _
    rw [fldsR, if_neg (by simp [h])]
  rw [this]
  congr 1
  rcases readFld_less b with h1 | h1
  · rw [h1, fldsL_end (.inl rfl)]
    cases b.length <;> simp [fldsR]
  · exact fldsR_fuel _ _ _ _ h1 (by omega)
theorem celsL_end {b : List Int} {bad : Bool} (h : bad = true ∨ b = []) : celsL b bad = [] := by unfold celsL celsR; rw [if_pos h]
theorem celsL_next {b : List Int} (h : b ≠ []) : celsL b false = (readCel b).1 :: celsL (readCel b).2.1 (readCel b).2.2 := by
  have : celsL b false = (readCel b).1 :: celsR b.length (readCel b).2.1 (readCel b).2.2 := by
    show celsR (b.length + 1) b false = _
    rw [celsR, if_neg (by simp [h])]
  rw [this]
  congr 1
  rcases readCel_less b h with h1 | h1
  · rw [h1, celsL_end (.inl rfl)]
    cases b.length <;> simp [celsR]
  · exact celsR_fuel _ _ _ _ h1 (by omega)
theorem same_eq {a b : Back} (h : a.same b = true) : a = b := by
  obtain ⟨xk, xn, xt, xp, xs, xu, xf, xc, xa, xg⟩ := a
  obtain ⟨yk, yn, yt, yp, ys, yu, yf, yc, ya, yg⟩ := b
  simp only [Back.same, Bool.and_eq_true, decide_eq_true_eq] at h
  obtain ⟨rfl, rfl, rfl, rfl, rfl, rfl, rfl, rfl, rfl, rfl⟩ := h
  rfl
/-- what may be written -/
theorem back_ok {m : Back} (h : (putBackS m).2 = 0) (hk : m.kind ≠ 10) : backMay m = true ∧ m.only = m ∧ (backBody m).length + 4 ≤ 1073741824 ∧ backLong m + 4 ≤ 1073741824 ∧ (putBackS m).1 = tagOf m.kind :: (big4 ((backBody m).length + 4) ++ backBody m) := by
  unfold putBackS at h ⊢
  rw [if_neg hk] at h ⊢
  unfold putEnd at h ⊢
  cases hm : (backMay m && m.only.like m)
  · rw [hm] at h
    exact absurd h (by simp)
  · rw [hm] at h
    have e9 : ∀ x y : List Int × Int, (if true = false then x else y) = y := fun _ _ => rfl
    rw [e9] at h ⊢
    rw [Bool.and_eq_true] at hm
    by_cases hl : 1073741824 < (if backLong m ≤ (backBody m).length then ((backBody m).length : Int) else backLong m) + 4
    · rw [if_pos hl] at h
      exact absurd h (by simp)
    · rw [if_neg hl]
      refine ⟨hm.1, same_eq (by rw [bonly_same]; exact hm.2), ?_, ?_, rfl⟩
      · split at hl <;> omega
      · split at hl <;> omega
theorem back_kind {m : Back} (h : backMay m = true) : 1 ≤ m.kind ∧ m.kind ≤ 9 := by
  unfold backMay at h
  by_cases hq : 1 ≤ m.kind ∧ m.kind ≤ 9
  · exact hq
  · repeat rw [if_neg (by omega)] at h
    cases h
theorem pgNum_big4 {n : Int} (h : i32ok n = true) (r : List Int) : pgNum (big4 n ++ r) false = (n, r, false) := by
  unfold pgNum
  rw [if_neg (by rw [List.length_append, big4_l]; omega), i32v_big4 h, drop4_big4]
theorem no0 {a : List Int} (h : has0 a = false) : ∀ x ∈ a, x ≠ 0 := fun x hx h0 => by
  have := (has0_iff a).2 (h0 ▸ hx)
  rw [h] at this
  cases this
theorem pgText_app {a : List Int} (h : has0 a = false) (r : List Int) : pgText (a ++ 0 :: r) false = (a, r, false) := by
  unfold pgText
  rw [cut0_app r (no0 h)]
  rfl
theorem pgTake_app (a r : List Int) {n : Int} (h : n = a.length) : pgTake (a ++ r) false n = (a, r, false) := by
  subst h
  unfold pgTake
  rw [if_neg (by simp only [List.length_append]; omega)]
  simp
theorem readFld_app {p : List Int × Int} (h : fldOk p = true) (r : List Int) : readFld (fldB p ++ r) false = (p, r, false) := by
  obtain ⟨a, t⟩ := p
  unfold fldOk at h
  simp only [Bool.and_eq_true, Bool.not_eq_true'] at h
  have e : fldB (a, t) ++ r = a ++ 0 :: ([0, 0, 0, 0, 0, 0] ++ (big4 (colN t) ++ (big2 (colS t) ++ big4 (-1) ++ big2 0 ++ r))) := by
    unfold fldB
    simp [big4, big2]
  have ht : t = 1 ∨ t = 2 ∨ t = 3 := by
    have h1 := h.1
    unfold colOf at h1
    by_cases k1 : t = 1
    · exact .inl k1
    by_cases k2 : t = 2
    · exact .inr (.inl k2)
    by_cases k3 : t = 3
    · exact .inr (.inr k3)
    · rw [if_neg k1, if_neg k2, if_neg k3] at h1
      cases h1
  have hn : i32ok (colN t) = true ∧ typN (colN t) = t := by rcases ht with rfl | rfl | rfl <;> exact ⟨by decide, by decide⟩
  unfold readFld
  rw [e, pgText_app h.2]
  simp only
  rw [pgTake_app [0, 0, 0, 0, 0, 0] _ (by rfl)]
  simp only
  rw [pgNum_big4 hn.1]
  simp only
  rw [show big2 (colS t) ++ big4 (-1) ++ big2 0 ++ r = (big2 (colS t) ++ big4 (-1) ++ big2 0) ++ r from rfl, pgTake_app (big2 (colS t) ++ big4 (-1) ++ big2 0) r (by rfl)]
  simp only
  rw [hn.2]
theorem fldsL_back : ∀ l : List (List Int × Int), l.all fldOk = true → fldsL (fldsF l) false = l
  | [], _ => fldsL_end (.inr rfl)
  | p :: l, h => by
    simp only [List.all_cons, Bool.and_eq_true] at h
    have e : fldsF (p :: l) = fldB p ++ fldsF l := by unfold fldsF; simp
    have hne : fldB p ++ fldsF l ≠ [] := fun h0 => by
      have := congrArg List.length h0
      rw [List.length_append, fldB_len] at this
      simp at this
    rw [e, fldsL_next hne, readFld_app h.1]
    simp only
    rw [fldsL_back l h.2]
theorem readCel_app {p : Bool × List Int} (h : celOk p = true) (hl : p.2.length ≤ 2147483647) (r : List Int) : readCel (celB p ++ r) = (p, r, false) := by
  obtain ⟨a, t⟩ := p
  unfold celOk at h
  cases a
  · have e : celB (false, t) ++ r = big4 t.length ++ (t ++ r) := by unfold celB; simp
    unfold readCel
    rw [e, pgNum_big4 (ok32 (by omega) (by simp only at hl; omega))]
    simp only
    rw [if_neg (by omega), pgTake_app t r rfl]
  · have ht : t = [] := by simpa using h
    subst ht
    have e : celB (true, []) ++ r = big4 (-1) ++ r := rfl
    unfold readCel
    rw [e, pgNum_big4 (by decide)]
    rfl
theorem celsL_back : ∀ l : List (Bool × List Int), l.all celOk = true → celsT l ≤ 2147483647 → celsL (celsF l) false = l
  | [], _, _ => celsL_end (.inr rfl)
  | p :: l, h, hl => by
    simp only [List.all_cons, Bool.and_eq_true] at h
    have e : celsF (p :: l) = celB p ++ celsF l := by unfold celsF; simp
    have hT : celsT (p :: l) = p.2.length + celsT l := by unfold celsT; simp
    have hne : celB p ++ celsF l ≠ [] := fun h0 => by
      have := congrArg List.length h0
      rw [List.length_append, celB_len _ h.1] at this
      simp at this
    rw [e, celsL_next hne, readCel_app h.1 (by omega)]
    simp only
    rw [celsL_back l h.2 (by omega)]
/-- what was laid is read again -/
theorem told_back {m : Back} (h : (putBackS m).2 = 0) (hk : m.kind ≠ 10) : toldS m.kind (backBody m) = m := by
  obtain ⟨hy, ho, hl, hlo, -⟩ := back_ok h hk
  have hr := back_kind hy
  have hq : m.kind = 1 ∨ m.kind = 2 ∨ m.kind = 3 ∨ m.kind = 4 ∨ m.kind = 5 ∨ m.kind = 6 ∨ m.kind = 7 ∨ m.kind = 8 ∨ m.kind = 9 := by omega
  obtain ⟨xk, xn, xt, xp, xs, xu, xf, xc, xa, xg⟩ := m
  simp only at hk hq
  rcases hq with rfl | rfl | rfl | rfl | rfl | rfl | rfl | rfl | rfl
  all_goals simp only [Back.only, zB, Int.reduceEq, ↓reduceIte, Back.mk.injEq, true_and, and_true] at ho
  all_goals simp only [backMay, Int.reduceEq, ↓reduceIte, Bool.and_eq_true, Bool.not_eq_true'] at hy
  all_goals simp only [toldS, backBody, Int.reduceEq, ↓reduceIte]
  · obtain ⟨rfl, rfl, rfl, rfl, rfl, rfl, rfl, rfl, rfl⟩ := ho
    rfl
  · obtain ⟨rfl, rfl, rfl, rfl, rfl, rfl, rfl⟩ := ho
    rw [show xn ++ [0] ++ xt ++ [0] = xn ++ 0 :: (xt ++ 0 :: []) by simp, pgText_app hy.1]
    simp only
    rw [pgText_app hy.2]
    rfl
  · obtain ⟨rfl, rfl, rfl, rfl, rfl, rfl, rfl⟩ := ho
    rw [pgNum_big4 hy.1]
    simp only
    rw [show big4 xs = big4 xs ++ [] by simp, pgNum_big4 hy.2]
    rfl
  · obtain ⟨rfl, rfl, rfl, rfl, rfl, rfl, rfl, rfl⟩ := ho
    rfl
  · obtain ⟨rfl, rfl, rfl, rfl, rfl, rfl, rfl, rfl⟩ := ho
    unfold fldsMay at hy
    rw [Bool.and_eq_true] at hy
    have e : fldsBody xf = big2 xf.length ++ fldsF xf := if_pos hy.1
    rw [e, pgTake_app (big2 xf.length) _ (by rfl)]
    simp only
    have := fldsL_back xf hy.1
    unfold fldsL at this
    rw [this]
    rfl
  · obtain ⟨rfl, rfl, rfl, rfl, rfl, rfl, rfl, rfl⟩ := ho
    unfold celsMay at hy
    rw [Bool.and_eq_true, decide_eq_true_eq] at hy
    simp only [backLong, ↓reduceIte, celsLong, hy.1] at hlo
    have hN : celsN xc = 2 + (4 * xc.length + celsT xc) := rfl
    have e : celsBody xc = big2 xc.length ++ celsF xc := if_pos (by unfold celsFew; rw [hy.1]; simp [hy.2]; omega)
    rw [e, pgTake_app (big2 xc.length) _ (by rfl)]
    simp only
    have := celsL_back xc hy.1 (by omega)
    unfold celsL at this
    rw [this]
    rfl
  · obtain ⟨rfl, rfl, rfl, rfl, rfl, rfl, rfl, rfl⟩ := ho
    rw [pgText_app hy]
    rfl
  · obtain ⟨rfl, rfl, rfl, rfl, rfl, rfl, rfl, rfl, rfl⟩ := ho
    rfl
  · obtain ⟨rfl, rfl, rfl, rfl, rfl, rfl⟩ := ho
    have hs0 : has0 xa = false := by
      rw [Bool.eq_false_iff, ne_eq, has0_iff]
      intro h0
      have h1 := hy.1
      unfold stated at h1
      rw [Bool.and_eq_true, List.all_eq_true] at h1
      have := h1.2 0 h0
      revert this
      decide
    have e : errBody ⟨9, [], xt, 0, 0, 0, [], [], xa, xg⟩ = (83 :: sevOf xg) ++ 0 :: ((86 :: sevOf xg) ++ 0 :: ((67 :: xa) ++ 0 :: ((77 :: xt) ++ 0 :: [0]))) := by unfold errBody; simp
    have c1 : has0 (83 :: sevOf xg) = false := by cases xg <;> decide
    have c2 : has0 (86 :: sevOf xg) = false := by cases xg <;> decide
    have cc : ∀ (c : Int) (l : List Int), c ≠ 0 → has0 l = false → has0 (c :: l) = false := fun c l hc hl => by
      rw [Bool.eq_false_iff, ne_eq, has0_iff]
      intro h0
      rcases List.mem_cons.1 h0 with h0 | h0
      · exact hc h0.symm
      · rw [(has0_iff l).2 h0] at hl
        cases hl
    rw [e, pgText_app c1]
    simp only
    rw [pgText_app c2]
    simp only
    rw [pgText_app (cc 67 xa (by decide) hs0)]
    simp only
    rw [pgText_app (cc 77 xt (by decide) hy.2)]
    simp only [dropPre, List.length_cons, List.length_nil, Nat.zero_add, List.take_succ_cons, List.take_zero, ↓reduceIte, List.drop_succ_cons, List.drop_zero]
    cases xg <;> rfl
end PM
end Go.Proofs.YthaekefdadccaaaDoor
namespace Go.Proofs.YthaekefdadccaaaDoor
open Go.RowKit
namespace PM
/-- the texts of which a body is made -/
def strsF : Nat → List Int → Option (List (List Int))
  | 0, _ => none
  | f + 1, b => if b = [] then some [] else match cut0 b with
    | none => none
    | some (a, r) => (strsF f r).map (a :: ·)
def gTyp (n : Int) : Int := if n = 16 then 2 else if n = 25 then 3 else 1
def gFldsF : Nat → List Int → Option (List (List Int × Int))
  | 0, _ => none
  | f + 1, b => if b = [] then some [] else match cut0 b with
    | none => none
    | some (a, r) => if r.length < 18 then none else (gFldsF f (r.drop 18)).map ((a, gTyp (i32v (r.drop 6))) :: ·)
def gCelsF : Nat → List Int → Option (List (Bool × List Int))
  | 0, _ => none
  | f + 1, b => if b = [] then some [] else if b.length < 4 then none else if i32v b < 0 then (gCelsF f (b.drop 4)).map ((true, []) :: ·) else
    if ((b.length : Int) - 4) < i32v b then none else (gCelsF f ((b.drop 4).drop (i32v b).toNat)).map ((false, (b.drop 4).take (i32v b).toNat) :: ·)
def strsS (b : List Int) : Option (List (List Int)) := strsF (b.length + 1) b
def gFldsS (b : List Int) : Back := match gFldsF ((b.drop 2).length + 1) (b.drop 2) with
  | some l => { zB with kind := 5, fields := l }
  | none => zB
def gCelsS (b : List Int) : Back := match gCelsF ((b.drop 2).length + 1) (b.drop 2) with
  | some l => { zB with kind := 6, cells := l }
  | none => zB
def gRest (tag : Int) (b : List Int) : Back := match strsS b with
  | none => zB
  | some l => if tag = 83 then (if l.length = 2 then { zB with kind := 2, name := l.getD 0 [], text := l.getD 1 [] } else zB) else
    if tag = 67 then (if l.length = 1 then { zB with kind := 7, text := l.getD 0 [] } else zB) else
    if tag = 69 then (if l.length = 5 ∧ 0 < (l.getD 2 []).length ∧ 0 < (l.getD 3 []).length then { zB with kind := 9, fatal := decide (l.getD 0 [] = [83, 70, 65, 84, 65, 76]), state := (l.getD 2 []).drop 1, text := (l.getD 3 []).drop 1 } else zB) else zB
def guessS (tag : Int) (b : List Int) : Back :=
  if tag = 82 then { zB with kind := 1 } else if tag = 73 then { zB with kind := 8 } else
  if tag = 75 then (if b.length = 8 then { zB with kind := 3, pid := i32v b, secret := i32v (b.drop 4) } else gRest tag b) else
  if tag = 90 then (if b.length = 1 then { zB with kind := 4, status := b.getD 0 0 } else gRest tag b) else
  if tag = 84 then gFldsS b else if tag = 68 then gCelsS b else gRest tag b
theorem strsF_app {a : List Int} (h : has0 a = false) (f : Nat) (r : List Int) : strsF (f + 1) (a ++ 0 :: r) = (strsF f r).map (a :: ·) := by
  rw [strsF, if_neg (by simp), cut0_app r (no0 h)]
theorem strsF_nil (f : Nat) : strsF (f + 1) [] = some [] := by rw [strsF, if_pos rfl]
theorem strsF_fuel : ∀ (f g : Nat) (b : List Int), b.length < f → b.length < g → strsF f b = strsF g b
  | 0, _, _, h, _ => by omega
  | _ + 1, 0, _, _, h => by omega
  | f + 1, g + 1, b, hf, hg => by
    unfold strsF
    split
    · rfl
    · cases h : cut0 b with
      | none => rfl
      | some p =>
        obtain ⟨a, r⟩ := p
        have := cut0_len h
        simp only
        rw [strsF_fuel f g r (by omega) (by omega)]
theorem gFldsF_fuel : ∀ (f g : Nat) (b : List Int), b.length < f → b.length < g → gFldsF f b = gFldsF g b
  | 0, _, _, h, _ => by omega
  | _ + 1, 0, _, _, h => by omega
  | f + 1, g + 1, b, hf, hg => by
    unfold gFldsF
    split
    · rfl
    · cases h : cut0 b with
      | none => rfl
      | some p =>
        obtain ⟨a, r⟩ := p
        have := cut0_len h
        simp only
        rw [gFldsF_fuel f g (r.drop 18) (by rw [List.length_drop]; omega) (by rw [List.length_drop]; omega)]
theorem gCelsF_fuel : ∀ (f g : Nat) (b : List Int), b.length < f → b.length < g → gCelsF f b = gCelsF g b
  | 0, _, _, h, _ => by omega
  | _ + 1, 0, _, _, h => by omega
  | f + 1, g + 1, b, hf, hg => by
    unfold gCelsF
    split
    · rfl
    split
    · rfl
    rename_i h4
    split
    · rw [gCelsF_fuel f g (b.drop 4) (by rw [List.length_drop]; omega) (by rw [List.length_drop]; omega)]
    · rw [gCelsF_fuel f g ((b.drop 4).drop (i32v b).toNat) (by rw [List.length_drop, List.length_drop]; omega) (by rw [List.length_drop, List.length_drop]; omega)]
theorem gFldsF_back : ∀ (l : List (List Int × Int)) (f : Nat), l.all fldOk = true → (fldsF l).length < f → gFldsF f (fldsF l) = some l
  | _, 0, _, h => by omega
  | [], f + 1, _, _ => by show gFldsF (f + 1) [] = some []; rw [gFldsF, if_pos rfl]
  | p :: l, f + 1, h, hf => by
    simp only [List.all_cons, Bool.and_eq_true] at h
    have e : fldsF (p :: l) = fldB p ++ fldsF l := by unfold fldsF; simp
    have hp := h.1
    obtain ⟨a, t⟩ := p
    unfold fldOk at hp
    simp only [Bool.and_eq_true, Bool.not_eq_true'] at hp
    have e2 : fldB (a, t) ++ fldsF l = a ++ 0 :: ([0, 0, 0, 0, 0, 0] ++ (big4 (colN t) ++ (big2 (colS t) ++ big4 (-1) ++ big2 0 ++ fldsF l))) := by
      unfold fldB
      simp [big4, big2]
    have ht : t = 1 ∨ t = 2 ∨ t = 3 := by
      have h1 := hp.1
      unfold colOf at h1
      by_cases k1 : t = 1
      · exact .inl k1
      by_cases k2 : t = 2
      · exact .inr (.inl k2)
      by_cases k3 : t = 3
      · exact .inr (.inr k3)
      · rw [if_neg k1, if_neg k2, if_neg k3] at h1
        cases h1
    have hn : i32ok (colN t) = true ∧ gTyp (colN t) = t := by rcases ht with rfl | rfl | rfl <;> exact ⟨by decide, by decide⟩
    have hlen : (fldsF l).length + 19 ≤ (fldsF ((a, t) :: l)).length := by rw [e, List.length_append, fldB_len]; simp only; omega
    rw [e, e2, gFldsF, if_neg (by simp), cut0_app _ (no0 hp.2)]
    simp only
    rw [if_neg (by simp [big4, big2])]
    have d18 : ([0, 0, 0, 0, 0, 0] ++ (big4 (colN t) ++ (big2 (colS t) ++ big4 (-1) ++ big2 0 ++ fldsF l))).drop 18 = fldsF l := rfl
    have d6 : ([0, 0, 0, 0, 0, 0] ++ (big4 (colN t) ++ (big2 (colS t) ++ big4 (-1) ++ big2 0 ++ fldsF l))).drop 6 = big4 (colN t) ++ (big2 (colS t) ++ big4 (-1) ++ big2 0 ++ fldsF l) := rfl
    rw [d18, d6, i32v_big4 hn.1, hn.2, gFldsF_back l f h.2 (by omega)]
    rfl
theorem gCelsF_back : ∀ (l : List (Bool × List Int)) (f : Nat), l.all celOk = true → celsT l ≤ 2147483647 → (celsF l).length < f → gCelsF f (celsF l) = some l
  | _, 0, _, _, h => by omega
  | [], f + 1, _, _, _ => by show gCelsF (f + 1) [] = some []; rw [gCelsF, if_pos rfl]
  | p :: l, f + 1, h, hT0, hf => by
    simp only [List.all_cons, Bool.and_eq_true] at h
    have e : celsF (p :: l) = celB p ++ celsF l := by unfold celsF; simp
    have hT : celsT (p :: l) = p.2.length + celsT l := by unfold celsT; simp
    have hlen : (celsF l).length + 4 ≤ (celsF (p :: l)).length := by rw [e, List.length_append, celB_len _ h.1]; omega
    have hb := gCelsF_back l f h.2 (by omega) (by omega)
    have hp := h.1
    obtain ⟨a, t⟩ := p
    unfold celOk at hp
    cases a
    · have e2 : celB (false, t) ++ celsF l = big4 t.length ++ (t ++ celsF l) := by unfold celB; simp
      have hi := i32v_big4 (n := (t.length : Int)) (ok32 (by omega) (by simp only at hT; omega)) (t ++ celsF l)
      rw [e, e2, gCelsF, if_neg (by simp [big4]), if_neg (by rw [List.length_append, big4_l]; omega), hi, if_neg (by omega), if_neg (by simp only [List.length_append, big4_l]; omega), drop4_big4, Int.toNat_natCast, List.drop_left, List.take_left, hb]
      rfl
    · have ht : t = [] := by simpa using hp
      subst ht
      have e2 : celB (true, []) ++ celsF l = big4 (-1) ++ celsF l := rfl
      rw [e, e2, gCelsF, if_neg (by simp [big4]), if_neg (by rw [List.length_append, big4_l]; omega), i32v_big4 (by decide), if_pos (by decide), drop4_big4, hb]
      rfl
/-- what was laid is read again -/
theorem guess_back {m : Back} (h : (putBackS m).2 = 0) (hk : m.kind ≠ 10) : guessS (tagOf m.kind) (backBody m) = m := by
  obtain ⟨hy, ho, hl, hlo, -⟩ := back_ok h hk
  have hr := back_kind hy
  have hq : m.kind = 1 ∨ m.kind = 2 ∨ m.kind = 3 ∨ m.kind = 4 ∨ m.kind = 5 ∨ m.kind = 6 ∨ m.kind = 7 ∨ m.kind = 8 ∨ m.kind = 9 := by omega
  obtain ⟨xk, xn, xt, xp, xs, xu, xf, xc, xa, xg⟩ := m
  simp only at hk hq
  rcases hq with rfl | rfl | rfl | rfl | rfl | rfl | rfl | rfl | rfl
  all_goals simp only [Back.only, zB, Int.reduceEq, ↓reduceIte, Back.mk.injEq, true_and, and_true] at ho
  all_goals simp only [backMay, Int.reduceEq, ↓reduceIte, Bool.and_eq_true, Bool.not_eq_true'] at hy
  all_goals simp only [guessS, backBody, tagOf, Int.toNat_one, Int.reduceToNat, List.getD_cons_succ, List.getD_cons_zero, Int.reduceEq, ↓reduceIte]
  · obtain ⟨rfl, rfl, rfl, rfl, rfl, rfl, rfl, rfl, rfl⟩ := ho
    rfl
  · obtain ⟨rfl, rfl, rfl, rfl, rfl, rfl, rfl⟩ := ho
    unfold gRest strsS
    rw [show xn ++ [0] ++ xt ++ [0] = xn ++ 0 :: (xt ++ 0 :: []) by simp]
    obtain ⟨f, hf⟩ : ∃ f, (xn ++ 0 :: (xt ++ 0 :: [])).length + 1 = f + 1 + 1 + 1 := ⟨xn.length + xt.length, by simp; omega⟩
    rw [hf, strsF_app hy.1, strsF_app hy.2, strsF_nil]
    rfl
  · obtain ⟨rfl, rfl, rfl, rfl, rfl, rfl, rfl⟩ := ho
    rw [if_pos (by rfl), i32v_big4 hy.1, drop4_big4, show big4 xs = big4 xs ++ [] by simp, i32v_big4 hy.2]
    rfl
  · obtain ⟨rfl, rfl, rfl, rfl, rfl, rfl, rfl, rfl⟩ := ho
    rfl
  · obtain ⟨rfl, rfl, rfl, rfl, rfl, rfl, rfl, rfl⟩ := ho
    unfold fldsMay at hy
    rw [Bool.and_eq_true] at hy
    have e : fldsBody xf = big2 xf.length ++ fldsF xf := if_pos hy.1
    have e2 : (big2 (xf.length : Int) ++ fldsF xf).drop 2 = fldsF xf := rfl
    rw [e]
    unfold gFldsS
    rw [e2, gFldsF_back xf _ hy.1 (by omega)]
    rfl
  · obtain ⟨rfl, rfl, rfl, rfl, rfl, rfl, rfl, rfl⟩ := ho
    unfold celsMay at hy
    rw [Bool.and_eq_true, decide_eq_true_eq] at hy
    simp only [backLong, ↓reduceIte, celsLong, hy.1] at hlo
    have hN : celsN xc = 2 + (4 * xc.length + celsT xc) := rfl
    have e : celsBody xc = big2 xc.length ++ celsF xc := if_pos (by unfold celsFew; rw [hy.1]; simp [hy.2]; omega)
    have e2 : (big2 (xc.length : Int) ++ celsF xc).drop 2 = celsF xc := rfl
    rw [e]
    unfold gCelsS
    rw [e2, gCelsF_back xc _ hy.1 (by omega) (by omega)]
    rfl
  · obtain ⟨rfl, rfl, rfl, rfl, rfl, rfl, rfl, rfl⟩ := ho
    unfold gRest strsS
    obtain ⟨f, hf⟩ : ∃ f, (xt ++ [0]).length + 1 = f + 1 + 1 := ⟨xt.length, by simp⟩
    rw [hf, strsF_app hy, strsF_nil]
    rfl
  · obtain ⟨rfl, rfl, rfl, rfl, rfl, rfl, rfl, rfl, rfl⟩ := ho
    rfl
  · obtain ⟨rfl, rfl, rfl, rfl, rfl, rfl⟩ := ho
    have hs0 : has0 xa = false := by
      rw [Bool.eq_false_iff, ne_eq, has0_iff]
      intro h0
      have h1 := hy.1
      unfold stated at h1
      rw [Bool.and_eq_true, List.all_eq_true] at h1
      have := h1.2 0 h0
      revert this
      decide
    have e : errBody ⟨9, [], xt, 0, 0, 0, [], [], xa, xg⟩ = (83 :: sevOf xg) ++ 0 :: ((86 :: sevOf xg) ++ 0 :: ((67 :: xa) ++ 0 :: ((77 :: xt) ++ 0 :: ([] ++ 0 :: [])))) := by unfold errBody; simp
    have c1 : has0 (83 :: sevOf xg) = false := by cases xg <;> decide
    have c2 : has0 (86 :: sevOf xg) = false := by cases xg <;> decide
    have cc : ∀ (c : Int) (l : List Int), c ≠ 0 → has0 l = false → has0 (c :: l) = false := fun c l hc hl => by
      rw [Bool.eq_false_iff, ne_eq, has0_iff]
      intro h0
      rcases List.mem_cons.1 h0 with h0 | h0
      · exact hc h0.symm
      · rw [(has0_iff l).2 h0] at hl
        cases hl
    unfold gRest strsS
    rw [e]
    obtain ⟨f, hf⟩ : ∃ f, ((83 :: sevOf xg) ++ 0 :: ((86 :: sevOf xg) ++ 0 :: ((67 :: xa) ++ 0 :: ((77 :: xt) ++ 0 :: ([] ++ 0 :: []))))).length + 1 = f + 1 + 1 + 1 + 1 + 1 + 1 := ⟨(sevOf xg).length + (sevOf xg).length + xa.length + xt.length + 4, by simp; omega⟩
    rw [hf, strsF_app c1, strsF_app c2, strsF_app (cc 67 xa (by decide) hs0), strsF_app (cc 77 xt (by decide) hy.2), strsF_app (by decide), strsF_nil]
    cases xg <;> rfl
/-- the kind of a tag; 0: none -/
def kindOf (c : Int) : Int := idxI [82, 83, 75, 90, 84, 68, 67, 73, 69] c + 1
/-- a server's message off the front of bytes, read by g: the message, how many bytes it has, the error -/
def takeG (g : Int → List Int → Back) (b : List Int) : Back × Int × Int :=
  if b = [] then (zB, 0, 10) else if b.getD 0 0 = 78 then ({ zB with kind := 10 }, 1, 0) else if kindOf (b.getD 0 0) = 0 then (zB, 0, 230) else
  if b.length < 5 then (zB, 0, 10) else if i32v (b.drop 1) < 4 then (zB, 0, 230) else if 1073741824 < i32v (b.drop 1) then (zB, 0, 231) else if (b.length : Int) - 1 < i32v (b.drop 1) then (zB, 0, 10) else
  if (putBackS (g (kindOf (b.getD 0 0)) ((b.take (1 + (i32v (b.drop 1)).toNat)).drop 5))).2 = 0 ∧ (putBackS (g (kindOf (b.getD 0 0)) ((b.take (1 + (i32v (b.drop 1)).toNat)).drop 5))).1 = b.take (1 + (i32v (b.drop 1)).toNat) then
    (g (kindOf (b.getD 0 0)) ((b.take (1 + (i32v (b.drop 1)).toNat)).drop 5), 1 + i32v (b.drop 1), 0) else (zB, 0, 230)
def guessK (k : Int) (b : List Int) : Back := guessS (tagOf k) b
theorem kind_tag {k : Int} (h : 1 ≤ k ∧ k ≤ 9) : kindOf (tagOf k) = k ∧ tagOf k ≠ 78 := by
  have hq : k = 1 ∨ k = 2 ∨ k = 3 ∨ k = 4 ∨ k = 5 ∨ k = 6 ∨ k = 7 ∨ k = 8 ∨ k = 9 := by omega
  rcases hq with rfl | rfl | rfl | rfl | rfl | rfl | rfl | rfl | rfl <;> exact ⟨by decide, by decide⟩
/-- a reader that gives back what was laid -/
def Good (g : Int → List Int → Back) : Prop := ∀ m : Back, (putBackS m).2 = 0 → m.kind ≠ 10 → g m.kind (backBody m) = m
theorem told_good : Good toldS := fun _ h hk => told_back h hk
theorem guess_good : Good guessK := fun _ h hk => guess_back h hk
theorem take_uniq {g g' : Int → List Int → Back} (hg' : Good g') {b : List Int} {n : Nat} (hn : 4 ≤ n) (hl : n + 1 ≤ b.length) (h : (putBackS (g (kindOf (b.getD 0 0)) ((b.take (1 + n)).drop 5))).2 = 0 ∧ (putBackS (g (kindOf (b.getD 0 0)) ((b.take (1 + n)).drop 5))).1 = b.take (1 + n)) :
    g' (kindOf (b.getD 0 0)) ((b.take (1 + n)).drop 5) = g (kindOf (b.getD 0 0)) ((b.take (1 + n)).drop 5) := by
  obtain ⟨h1, h2⟩ := h
  obtain ⟨m, hm⟩ : ∃ m, g (kindOf (b.getD 0 0)) ((b.take (1 + n)).drop 5) = m := ⟨_, rfl⟩
  rw [hm] at h1 h2 ⊢
  have hk : m.kind ≠ 10 := fun hk => by
    have h3 := congrArg List.length h2
    rw [List.length_take] at h3
    unfold putBackS at h3
    rw [if_pos hk] at h3
    split at h3 <;> simp at h3 <;> omega
  obtain ⟨hy, -, -, -, h5⟩ := back_ok h1 hk
  have hr := back_kind hy
  rw [h5] at h2
  have e1 : (b.take (1 + n)).drop 5 = backBody m := by rw [← h2]; rfl
  have e2 : b.getD 0 0 = tagOf m.kind := by
    have : (b.take (1 + n)).getD 0 0 = b.getD 0 0 := by
      cases b with
      | nil => simp
      | cons c r => rw [show 1 + n = n + 1 by omega]; rfl
    rw [← this, ← h2]
    rfl
  rw [e1, e2, (kind_tag hr).1]
  exact hg' m h1 hk
theorem take_eq {g g' : Int → List Int → Back} (hg : Good g) (hg' : Good g') (b : List Int) : takeG g b = takeG g' b := by
  unfold takeG
  split
  · rfl
  split
  · rfl
  split
  · rfl
  split
  · rfl
  rename_i h5
  split
  · rfl
  rename_i h4
  split
  · rfl
  split
  · rfl
  rename_i hl
  have hn : 4 ≤ (i32v (b.drop 1)).toNat := by omega
  have hl' : (i32v (b.drop 1)).toNat + 1 ≤ b.length := by omega
  by_cases h1 : (putBackS (g (kindOf (b.getD 0 0)) ((b.take (1 + (i32v (b.drop 1)).toNat)).drop 5))).2 = 0 ∧ (putBackS (g (kindOf (b.getD 0 0)) ((b.take (1 + (i32v (b.drop 1)).toNat)).drop 5))).1 = b.take (1 + (i32v (b.drop 1)).toNat)
  · rw [take_uniq hg' hn hl' h1]
  · by_cases h2 : (putBackS (g' (kindOf (b.getD 0 0)) ((b.take (1 + (i32v (b.drop 1)).toNat)).drop 5))).2 = 0 ∧ (putBackS (g' (kindOf (b.getD 0 0)) ((b.take (1 + (i32v (b.drop 1)).toNat)).drop 5))).1 = b.take (1 + (i32v (b.drop 1)).toNat)
    · rw [take_uniq hg hn hl' h2] at h1
      exact absurd h2 h1
    · rw [if_neg h1, if_neg h2]
/-- what was laid is taken again, whatever stands behind it -/
theorem take_back {g : Int → List Int → Back} (hg : Good g) {m : Back} (h : (putBackS m).2 = 0) (rest : List Int) : takeG g ((putBackS m).1 ++ rest) = (m, ((putBackS m).1.length : Int), 0) := by
  by_cases hk : m.kind = 10
  · have h0 := h
    unfold putBackS at h0 ⊢
    rw [if_pos hk] at h0 ⊢
    cases hL : m.only.like m
    · rw [hL] at h0
      exact absurd h0 (by simp)
    · rw [if_pos rfl]
      have ho : m.only = m := same_eq (by rw [bonly_same]; exact hL)
      have : m = { zB with kind := 10 } := by
        rw [← ho]
        unfold Back.only
        simp only [hk, Int.reduceEq, ↓reduceIte]
      rw [this]
      rfl
  · obtain ⟨hy, -, hl, -, h5⟩ := back_ok h hk
    have hr := back_kind hy
    have hL : (putBackS m).1.length = (backBody m).length + 5 := by rw [h5]; simp [big4]
    have hi : i32ok ((backBody m).length + 4) = true := ok32 (by omega) (by omega)
    have hd : ((putBackS m).1 ++ rest).drop 1 = big4 ((backBody m).length + 4) ++ (backBody m ++ rest) := by rw [h5]; simp
    have hv : i32v (((putBackS m).1 ++ rest).drop 1) = (backBody m).length + 4 := by rw [hd, i32v_big4 hi]
    have h0 : ((putBackS m).1 ++ rest).getD 0 0 = tagOf m.kind := by rw [h5]; rfl
    have ht : ((putBackS m).1 ++ rest).take (1 + (((backBody m).length : Int) + 4).toNat) = (putBackS m).1 := by
      have : 1 + (((backBody m).length : Int) + 4).toNat = (putBackS m).1.length := by rw [hL]; omega
      rw [this, List.take_left]
    have hd5 : (putBackS m).1.drop 5 = backBody m := by rw [h5]; rfl
    unfold takeG
    rw [if_neg (by rw [h5]; simp), h0, if_neg (kind_tag hr).2, (kind_tag hr).1, if_neg (by omega), if_neg (by rw [List.length_append, hL]; omega), hv, if_neg (by omega), if_neg (by omega), if_neg (by rw [List.length_append, hL]; omega), ht, hd5, hg m h hk, if_pos ⟨h, rfl⟩, hL]
    have e : (1 : Int) + (((backBody m).length : Int) + 4) = (((backBody m).length + 5 : Nat) : Int) := by omega
    rw [e]
/-- a beginning is too short -/
theorem take_cut {g : Int → List Int → Back} {m : Back} (h : (putBackS m).2 = 0) {c : Nat} (hc : c < (putBackS m).1.length) : takeG g ((putBackS m).1.take c) = (zB, 0, 10) := by
  by_cases hk : m.kind = 10
  · have h0 := h
    unfold putBackS at h0 hc ⊢
    rw [if_pos hk] at h0 hc ⊢
    cases hL : m.only.like m
    · rw [hL] at h0
      exact absurd h0 (by simp)
    · rw [hL, if_pos rfl] at hc
      simp only [List.length_cons, List.length_nil] at hc
      have : c = 0 := by omega
      subst this
      rfl
  · obtain ⟨hy, -, hl, -, h5⟩ := back_ok h hk
    have hr := back_kind hy
    have hL : (putBackS m).1.length = (backBody m).length + 5 := by rw [h5]; simp [big4]
    have hi : i32ok ((backBody m).length + 4) = true := ok32 (by omega) (by omega)
    have hlt : ((putBackS m).1.take c).length = c := by rw [List.length_take]; omega
    unfold takeG
    cases c with
    | zero => rfl
    | succ c =>
      have h0 : ((putBackS m).1.take (c + 1)).getD 0 0 = tagOf m.kind := by rw [h5]; rfl
      rw [if_neg (fun h9 => by rw [h9] at hlt; simp at hlt), h0, if_neg (kind_tag hr).2, (kind_tag hr).1, if_neg (by omega)]
      by_cases h9 : c + 1 < 5
      · rw [if_pos (by rw [hlt]; exact h9)]
      · have hv : i32v (((putBackS m).1.take (c + 1)).drop 1) = (backBody m).length + 4 := by
          obtain ⟨k, rfl⟩ : ∃ k, c = k + 4 := ⟨c - 4, by omega⟩
          rw [h5]
          show i32v (big4 ((backBody m).length + 4) ++ (backBody m).take k) = _
          rw [i32v_big4 hi]
        rw [if_neg (by rw [hlt]; exact h9), hv, if_neg (by omega), if_neg (by omega), if_pos (by rw [hlt]; omega)]
theorem put_none {m : Back} (h : (putBackS m).2 ≠ 0) : (putBackS m).1 = [] := by
  unfold putBackS at h ⊢
  split
  · rename_i hk
    rw [if_pos hk] at h
    split
    · rename_i hq; rw [if_pos hq] at h; exact absurd rfl h
    · rfl
  · rename_i hk
    rw [if_neg hk] at h
    unfold putEnd at h ⊢
    by_cases hA : (backMay m && m.only.like m) = false
    · rw [if_pos hA]
    · rw [if_neg hA] at h ⊢
      by_cases hB : 1073741824 < (if backLong m ≤ (backBody m).length then ((backBody m).length : Int) else backLong m) + 4
      · rw [if_pos hB]
      · rw [if_neg hB] at h
        exact absurd rfl h
end PM
end Go.Proofs.YthaekefdadccaaaDoor
namespace Go.Proofs.YthaekefdadccaaaDoor
open Go.RowKit
namespace PM
theorem pgText_fst (b : List Int) (bad : Bool) : (pgText b bad).1.length ≤ b.length ∧ (pgText b bad).2.1.length ≤ b.length := by
  unfold pgText
  split
  · exact ⟨Nat.zero_le _, Nat.le_refl _⟩
  · rename_i p hc
    have := cut0_len hc
    simp only
    split <;> (try simp only [List.length_cons]) <;> omega
theorem readFld_size (b : List Int) : (readFld b false).1.1.length ≤ b.length ∧ ((readFld b false).2.2 = true ∨ (readFld b false).2.1.length + (readFld b false).1.1.length + 1 ≤ b.length) := by
  have h0 := (pgText_fst b false).1
  refine ⟨h0, ?_⟩
  cases h : cut0 b with
  | none =>
    left
    have e : pgText b false = ([], b, true) := by unfold pgText; rw [h]
    unfold readFld
    rw [e]
    simp only
    rw [pgTake_bad, pgNum_bad]
    exact pgTake_bad _ _
  | some p =>
    obtain ⟨a, r⟩ := p
    right
    have e : pgText b false = (a, r, false) := by unfold pgText; rw [h]; rfl
    have hl := cut0_len h
    unfold readFld
    rw [e]
    simp only
    have h1 := pgTake_le r false 6
    have h2 := pgNum_le (pgTake r false 6).2.1 (pgTake r false 6).2.2
    have h3 := pgTake_le (pgNum (pgTake r false 6).2.1 (pgTake r false 6).2.2).2.1 (pgNum (pgTake r false 6).2.1 (pgTake r false 6).2.2).2.2 8
    omega
theorem fldsR_size : ∀ (f : Nat) (b : List Int) (bad : Bool), b.length < f → (fldsF (fldsR f b bad)).length ≤ 20 * b.length + 19
  | 0, _, _, h => by omega
  | f + 1, b, bad, hf => by
    unfold fldsR
    split
    · simp [fldsF]
    · obtain ⟨h1, h2⟩ := readFld_size b
      have e : ∀ (p : List Int × Int) l, (fldsF (p :: l)).length = p.1.length + 19 + (fldsF l).length := fun p l => by unfold fldsF; simp [fldB_len]
      rw [e]
      rcases h2 with h2 | h2
      · rw [h2]
        have e2 : fldsR f (readFld b false).2.1 true = [] := by cases f <;> simp [fldsR]
        rw [e2]
        simp [fldsF]
        omega
      · have := fldsR_size f (readFld b false).2.1 (readFld b false).2.2 (by omega)
        omega
theorem readCel_size (b : List Int) : (readCel b).2.2 = true ∧ (readCel b).1.2.length = 0 ∨ (readCel b).2.1.length + (readCel b).1.2.length + 4 ≤ b.length := by
  by_cases h : b.length < 4
  · have e : pgNum b false = (0, b, true) := if_pos h
    left
    unfold readCel
    rw [e]
    simp only [Int.lt_irrefl, ↓reduceIte]
    refine ⟨pgTake_bad _ _, ?_⟩
    unfold pgTake
    split <;> simp
  · have e : pgNum b false = (i32v b, b.drop 4, false) := if_neg h
    unfold readCel
    rw [e]
    simp only
    split
    · right
      simp only [List.length_drop, List.length_nil]
      omega
    · unfold pgTake
      split
      · left
        exact ⟨rfl, rfl⟩
      · right
        simp only [List.length_drop, List.length_take] at *
        omega
theorem celsR_size : ∀ (f : Nat) (b : List Int) (bad : Bool), b.length < f → 4 * (celsR f b bad).length + celsT (celsR f b bad) ≤ b.length + 4
  | 0, _, _, h => by omega
  | f + 1, b, bad, hf => by
    unfold celsR
    split
    · simp [celsT]
    · have e : ∀ (p : Bool × List Int) l, celsT (p :: l) = p.2.length + celsT l := fun p l => by unfold celsT; simp
      rw [e, List.length_cons]
      rcases readCel_size b with ⟨h1, h2⟩ | h2
      · rw [h1, h2]
        have e2 : celsR f (readCel b).2.1 true = [] := by cases f <;> simp [celsR]
        rw [e2]
        simp [celsT]
      · have := celsR_size f (readCel b).2.1 (readCel b).2.2 (by omega)
        omega
theorem dropPre_le (l p : List Int) : (dropPre l p).length ≤ l.length := by unfold dropPre; split <;> simp
theorem zB_small : backSmall zB := ⟨by decide, by decide, by decide, by decide, by decide⟩
theorem told_small (k : Int) (b : List Int) (hb : b.length ≤ 1073741824) : backSmall (toldS k b) := by
  have z : ∀ x : List Int, x = [] → x.length ≤ 100000000000 := fun x h => by rw [h]; simp
  have t1 := pgText_fst b false
  have t2 := pgText_fst (pgText b false).2.1 (pgText b false).2.2
  have t3 := pgText_fst (pgText (pgText b false).2.1 (pgText b false).2.2).2.1 (pgText (pgText b false).2.1 (pgText b false).2.2).2.2
  have t4 := pgText_fst (pgText (pgText (pgText b false).2.1 (pgText b false).2.2).2.1 (pgText (pgText b false).2.1 (pgText b false).2.2).2.2).2.1 (pgText (pgText (pgText b false).2.1 (pgText b false).2.2).2.1 (pgText (pgText b false).2.1 (pgText b false).2.2).2.2).2.2
  have k2 := pgTake_le b false 2
  have f5 := fldsR_size ((pgTake b false 2).2.1.length + 1) (pgTake b false 2).2.1 (pgTake b false 2).2.2 (by omega)
  have c6 := celsR_size ((pgTake b false 2).2.1.length + 1) (pgTake b false 2).2.1 (pgTake b false 2).2.2 (by omega)
  have s3 := dropPre_le (pgText (pgText (pgText b false).2.1 (pgText b false).2.2).2.1 (pgText (pgText b false).2.1 (pgText b false).2.2).2.2).1 [67]
  have s4 := dropPre_le (pgText (pgText (pgText (pgText b false).2.1 (pgText b false).2.2).2.1 (pgText (pgText b false).2.1 (pgText b false).2.2).2.2).2.1 (pgText (pgText (pgText b false).2.1 (pgText b false).2.2).2.1 (pgText (pgText b false).2.1 (pgText b false).2.2).2.2).2.2).1 [77]
  unfold toldS
  repeat' split
  all_goals refine ⟨?_, ?_, ?_, ?_, ?_⟩
  all_goals simp only [zB]
  all_goals first | (simp [fldsF, celsN, celsT]; done) | omega | (unfold celsN; omega)
theorem gFldsF_size : ∀ (f : Nat) (b : List Int) (l : List (List Int × Int)), gFldsF f b = some l → (fldsF l).length ≤ b.length
  | 0, _, _, h => by simp [gFldsF] at h
  | f + 1, b, l, h => by
    unfold gFldsF at h
    split at h
    · cases h; simp [fldsF]
    · cases hc : cut0 b with
      | none => rw [hc] at h; cases h
      | some p =>
        obtain ⟨a, r⟩ := p
        rw [hc] at h
        simp only at h
        split at h
        · cases h
        · rw [Option.map_eq_some_iff] at h
          obtain ⟨l', h1, rfl⟩ := h
          have h2 := gFldsF_size f _ l' h1
          have h3 := cut0_len hc
          rw [List.length_drop] at h2
          have e : (fldsF ((a, gTyp (i32v (r.drop 6))) :: l')).length = a.length + 19 + (fldsF l').length := by unfold fldsF; simp [fldB_len]
          omega
theorem gCelsF_size : ∀ (f : Nat) (b : List Int) (l : List (Bool × List Int)), gCelsF f b = some l → 4 * l.length + celsT l ≤ b.length
  | 0, _, _, h => by simp [gCelsF] at h
  | f + 1, b, l, h => by
    unfold gCelsF at h
    have e : ∀ (p : Bool × List Int) l, celsT (p :: l) = p.2.length + celsT l := fun p l => by unfold celsT; simp
    split at h
    · cases h; simp [celsT]
    split at h
    · cases h
    split at h
    · rw [Option.map_eq_some_iff] at h
      obtain ⟨l', h1, rfl⟩ := h
      have h2 := gCelsF_size f _ l' h1
      rw [List.length_drop] at h2
      rw [e, List.length_cons, List.length_nil]
      omega
    split at h
    · cases h
    · rw [Option.map_eq_some_iff] at h
      obtain ⟨l', h1, rfl⟩ := h
      have h2 := gCelsF_size f _ l' h1
      rw [List.length_drop, List.length_drop] at h2
      rw [e, List.length_cons, List.length_take, List.length_drop]
      omega
theorem strsF_size : ∀ (f : Nat) (b : List Int) (l : List (List Int)), strsF f b = some l → ∀ x ∈ l, x.length ≤ b.length
  | 0, _, _, h => by simp [strsF] at h
  | f + 1, b, l, h => by
    unfold strsF at h
    split at h
    · cases h; intro x hx; cases hx
    · cases hc : cut0 b with
      | none => rw [hc] at h; cases h
      | some p =>
        obtain ⟨a, r⟩ := p
        rw [hc] at h
        simp only at h
        rw [Option.map_eq_some_iff] at h
        obtain ⟨l', h1, rfl⟩ := h
        have h3 := cut0_len hc
        intro x hx
        rcases List.mem_cons.1 hx with rfl | hx
        · omega
        · have := strsF_size f _ l' h1 x hx
          omega
theorem getD_size {l : List (List Int)} {n : Nat} (h : ∀ x ∈ l, x.length ≤ n) (i : Nat) : (l.getD i []).length ≤ n := by
  rw [List.getD]
  cases hx : l[i]? with
  | none => simp
  | some x => exact h x (List.mem_of_getElem? hx)
theorem guess_small (k : Int) (b : List Int) (hb : b.length ≤ 1073741824) : backSmall (guessS k b) := by
  have hR : backSmall (gRest k b) := by
    unfold gRest
    split
    · exact zB_small
    · rename_i l hl
      have h := fun i => getD_size (strsF_size _ _ _ hl) i
      have h0 := h 0
      have h1 := h 1
      have h2 := h 2
      have h3 := h 3
      repeat' split
      all_goals first | exact zB_small | skip
      all_goals refine ⟨?_, ?_, ?_, ?_, ?_⟩
      all_goals simp only [zB, List.length_drop]
      all_goals first | (simp [fldsF, celsN, celsT]; done) | omega
  have hF : backSmall (gFldsS b) := by
    unfold gFldsS
    split
    · rename_i l hl
      have h1 := gFldsF_size _ _ _ hl
      rw [List.length_drop] at h1
      refine ⟨?_, ?_, ?_, ?_, ?_⟩
      all_goals simp only [zB]
      all_goals first | (simp [celsN, celsT]; done) | omega
    · exact zB_small
  have hC : backSmall (gCelsS b) := by
    unfold gCelsS
    split
    · rename_i l hl
      have h1 := gCelsF_size _ _ _ hl
      rw [List.length_drop] at h1
      refine ⟨?_, ?_, ?_, ?_, ?_⟩
      all_goals simp only [zB]
      all_goals first | (simp [fldsF]; done) | (unfold celsN; omega)
    · exact zB_small
  unfold guessS
  repeat' split
  all_goals first | exact hR | exact hF | exact hC | exact ⟨by simp [fldsF, zB], by simp [celsN, celsT, zB], by simp [zB], by simp [zB], by simp [zB]⟩
end PM
end Go.Proofs.YthaekefdadccaaaDoor
