/- The contracts of package hlc, and of the document's answer, on stamps. -/
import Derived.Test.YtogooghigeemaaaBase
import Derived.Test.YtogooghigeemaaaRows
namespace Go.Proofs.Ytogooghigeemaaa
open Go.RowKit
namespace Hlc

def isWall (n : Int) : Bool := decide (0 ≤ n) && decide (n ≤ 9007199254740991)
def right (a b : Int) : Bool := isWall a && (decide (0 ≤ b) && decide (b ≤ 65535))
theorem isWall_lo {n : Int} (h : n < 0) : isWall n = false := by simp [isWall]; omega
theorem isWall_hi {n : Int} (h : 0 ≤ n) : isWall n = decide (n ≤ 9007199254740991) := by simp [isWall, h]
theorem right_no {a b : Int} (h : ¬ isWall a = true) : right a b = false := by simp [right, h]
theorem right_lo {a b : Int} (h : b < 0) : right a b = false := by simp [right]; omega
theorem right_hi {a b : Int} (ha : isWall a = true) (h : 0 ≤ b) : right a b = decide (b ≤ 65535) := by simp [right, ha, h]
theorem right_iff {a b : Int} : right a b = true ↔ (0 ≤ a ∧ a ≤ 9007199254740991) ∧ 0 ≤ b ∧ b ≤ 65535 := by simp [right, isWall]
def cmpI (x y : Int) : Int := if x < y then -1 else if y < x then 1 else 0
/-- the order of stamps -/
def orI (x y : Int) : Int := if x = 0 then y else x
def cmpS (a b c d : Int) : Int := orI (cmpI a c) (cmpI b d)
/-- the stamp behind one: wall, logic, errno -/
def next (a b : Int) : Int × Int × Int :=
  if right a b = false then (0, 0, 80) else if a = 9007199254740991 ∧ b = 65535 then (0, 0, 82) else if b = 65535 then (a + 1, 0, 0) else (a, b + 1, 0)
def prev (a b : Int) : Int × Int × Int :=
  if right a b = false then (0, 0, 80) else if a = 0 ∧ b = 0 then (0, 0, 82) else if b = 0 then (a - 1, 65535, 0) else (a, b - 1, 0)
def vst (a b : Int) : Value := .agg #[.int .i64 a, .int .i64 b]
def vse (x : Int × Int × Int) : Value := .tuple #[.agg #[.int .i64 x.1, .int .i64 x.2.1], .int .i64 x.2.2]

set_option maxHeartbeats 400000 in
theorem wall_any (n : Int) (w : World) :
    Calls Try.prog 32 #[.int .i64 n] w fun e w' => e = .returned (.bool (isWall n)) ∧ w = w' := by
  go_enter Try.func32, Try.ntmps32
  go_wp2
  all_goals go_ret
  · rw [isWall_hi (by assumption)]; exact ⟨rfl, rfl⟩
  · rw [isWall_lo (by assumption)]; exact ⟨rfl, rfl⟩

set_option maxHeartbeats 400000 in
theorem rIsWall_any (n : Int) (w : World) :
    Calls Try.prog 23 #[.int .i64 n] w fun e w' => e = .returned (.bool (isWall n)) ∧ w = w' := by
  go_enter Try.func23, Try.ntmps23
  go_wp2
  all_goals go_ret
  · rw [isWall_hi (by assumption)]; exact ⟨rfl, rfl⟩
  · rw [isWall_lo (by assumption)]; exact ⟨rfl, rfl⟩

set_option maxHeartbeats 400000 in
theorem right_any (a b : Int) (w : World) :
    Calls Try.prog 14 #[.agg #[.int .i64 a, .int .i64 b]] w (Ret (.bool (right a b)) w) := by
  go_enter Try.func14, Try.ntmps14
  go_wp2_with (go_at_call 32; refine (wall_any _ _).mono ?_; rintro e w' ⟨rfl, rfl⟩)
  all_goals go_ret
  · rw [right_hi (by assumption) (by assumption)]; exact ⟨rfl, (Below.refl _ _).alloc (Nat.le_refl _) _⟩
  · rw [right_lo (by assumption)]; exact ⟨rfl, (Below.refl _ _).alloc (Nat.le_refl _) _⟩
  · rw [right_no (by assumption)]; exact ⟨rfl, (Below.refl _ _).alloc (Nat.le_refl _) _⟩

set_option maxHeartbeats 400000 in
theorem rRight_any (a b : Int) (w : World) :
    Calls Try.prog 18 #[.agg #[.int .i64 a, .int .i64 b]] w (Ret (.bool (right a b)) w) := by
  go_enter Try.func18, Try.ntmps18
  go_wp2_with (go_at_call 23; refine (rIsWall_any _ _).mono ?_; rintro e w' ⟨rfl, rfl⟩)
  all_goals go_ret
  · rw [right_hi (by assumption) (by assumption)]; exact ⟨rfl, (Below.refl _ _).alloc (Nat.le_refl _) _⟩
  · rw [right_lo (by assumption)]; exact ⟨rfl, (Below.refl _ _).alloc (Nat.le_refl _) _⟩
  · rw [right_no (by assumption)]; exact ⟨rfl, (Below.refl _ _).alloc (Nat.le_refl _) _⟩

set_option maxHeartbeats 400000 in
theorem cmpCompare (x y : Int) (w : World) :
    Calls Try.prog 34 #[.int .i64 x, .int .i64 y] w fun e w' => e = .returned (.int .i64 (cmpI x y)) ∧ w = w' := by
  rcases Int.lt_trichotomy x y with h | rfl | h
  · have e1 : cmpI x y = -1 := by simp [cmpI, h]
    rw [e1]; clear e1
    go_enter Try.func34, Try.ntmps34
    go_wp2
    go_ret
    exact ⟨rfl, rfl⟩
  · have e1 : cmpI x x = 0 := by simp [cmpI]
    rw [e1]; clear e1
    go_enter Try.func34, Try.ntmps34
    go_wp2
    go_ret
    exact ⟨rfl, rfl⟩
  · have e1 : cmpI x y = 1 := by simp [cmpI, h]; omega
    rw [e1]; clear e1
    go_enter Try.func34, Try.ntmps34
    go_wp2
    go_ret
    exact ⟨rfl, rfl⟩

set_option maxHeartbeats 400000 in
theorem cmpOr (x y : Int) (b : Nat) (w : World) (c0 : w.cell? ⟨b, 0, none⟩ = some (.int .i64 x)) (c1 : w.cell? ⟨b, 1, none⟩ = some (.int .i64 y)) :
    Calls Try.prog 33 #[.slice (some ⟨b, 0, none⟩) 2 2] w fun e w' => e = .returned (.int .i64 (orI x y)) ∧ w = w' := by
  by_cases hx : x = 0
  · subst hx
    by_cases hy : y = 0
    · subst hy
      go_enter Try.func33, Try.ntmps33
      go_wp2
      refine wp_loop_rounds 3 ?_; rw [rounds_succ]
      go_wp2
      rw [rounds_succ]; go_wp2
      rw [rounds_succ]; go_wp2
      go_ret
      exact ⟨rfl, rfl⟩
    · go_enter Try.func33, Try.ntmps33
      go_wp2
      refine wp_loop_rounds 2 ?_; rw [rounds_succ]
      go_wp2
      rw [rounds_succ]; go_wp2
      go_ret
      exact ⟨by simp [orI], rfl⟩
  · go_enter Try.func33, Try.ntmps33
    go_wp2
    refine wp_loop_rounds 1 ?_; rw [rounds_succ]
    go_wp2
    go_ret
    exact ⟨by simp [orI, hx], rfl⟩

set_option maxHeartbeats 800000 in
theorem compare_any (a b c d : Int) (w : World) :
    Calls Try.prog 15 #[.agg #[.int .i64 a, .int .i64 b], .agg #[.int .i64 c, .int .i64 d]] w (Ret (.int .i64 (cmpS a b c d)) w) := by
  go_enter Try.func15, Try.ntmps15
  go_wp2_with fail
  refine wp_region_still_tail 10 (by kernel_rfl) (by kernel_rfl) ?_
  show wpStill _ _ (World.drew _) _ _ _
  simp only [List.take_succ_cons, List.take_zero, List.drop_succ_cons, List.drop_zero]
  still_step; still_step; still_step; still_step
  still_call (cmpCompare _ _ _).mono fun _ _ h => ⟨h.1, h.2.symm⟩
  still_step; still_step; still_step; still_step
  still_call (cmpCompare _ _ _).mono fun _ _ h => ⟨h.1, h.2.symm⟩
  refine wpStill_nil ?_
  show wpList _ _ _ _ _ (World.drew _)
  go_wp2_with fail
  refine (cmpOr (cmpI a c) (cmpI b d) _ _ ?_ ?_).mono ?_; go_simp; go_simp; rintro e w' ⟨rfl, rfl⟩
  go_wp2_with fail
  go_ret
  exact ⟨rfl, (by repeat' (first | (with_reducible exact Below.refl _ _) | (with_reducible assumption) | (with_reducible refine Below.drew ?_) | (with_reducible refine below_drewN ?_ _) | (with_reducible refine bel_alloc ?_ _) | (with_reducible refine Below.setCell ?_ ?_ _) | (with_reducible refine bel_call ?_ (by assumption)) | (simp <;> omega)))⟩

theorem rcmp1 {a b c d : Int} (h : a < c) : cmpS a b c d = -1 := by simp [cmpS, orI, cmpI, h]
theorem rcmp2 {a b c d : Int} (h : c < a) : cmpS a b c d = 1 := by simp [cmpS, orI, cmpI, h]; omega
theorem rcmp3 {a b c d : Int} (e : a = c) (h : b < d) : cmpS a b c d = -1 := by simp [cmpS, orI, cmpI, h, e]
theorem rcmp4 {a b c d : Int} (e : a = c) (h : d < b) : cmpS a b c d = 1 := by simp [cmpS, orI, cmpI, h, e]; omega
theorem rcmp5 {a b c d : Int} (e : a = c) (h : b = d) : cmpS a b c d = 0 := by simp [cmpS, orI, cmpI, h, e]

set_option maxHeartbeats 400000 in
theorem rCompare_any (a b c d : Int) (w : World) :
    Calls Try.prog 19 #[.agg #[.int .i64 a, .int .i64 b], .agg #[.int .i64 c, .int .i64 d]] w (Ret (.int .i64 (cmpS a b c d)) w) := by
  rcases Int.lt_trichotomy a c with h | h | h
  · rw [rcmp1 h]
    go_enter Try.func19, Try.ntmps19
    go_wp2
    go_ret
    exact ⟨rfl, (by repeat' (first | (with_reducible exact Below.refl _ _) | (with_reducible assumption) | (with_reducible refine Below.drew ?_) | (with_reducible refine below_drewN ?_ _) | (with_reducible refine bel_alloc ?_ _) | (with_reducible refine Below.setCell ?_ ?_ _) | (with_reducible refine bel_call ?_ (by assumption)) | (simp <;> omega)))⟩
  · rcases Int.lt_trichotomy b d with h1 | h1 | h1
    · rw [rcmp3 h h1]; subst h
      go_enter Try.func19, Try.ntmps19
      go_wp2
      go_ret
      exact ⟨rfl, (by repeat' (first | (with_reducible exact Below.refl _ _) | (with_reducible assumption) | (with_reducible refine Below.drew ?_) | (with_reducible refine below_drewN ?_ _) | (with_reducible refine bel_alloc ?_ _) | (with_reducible refine Below.setCell ?_ ?_ _) | (with_reducible refine bel_call ?_ (by assumption)) | (simp <;> omega)))⟩
    · rw [rcmp5 h h1]; subst h; subst h1
      go_enter Try.func19, Try.ntmps19
      go_wp2
      go_ret
      exact ⟨rfl, (by repeat' (first | (with_reducible exact Below.refl _ _) | (with_reducible assumption) | (with_reducible refine Below.drew ?_) | (with_reducible refine below_drewN ?_ _) | (with_reducible refine bel_alloc ?_ _) | (with_reducible refine Below.setCell ?_ ?_ _) | (with_reducible refine bel_call ?_ (by assumption)) | (simp <;> omega)))⟩
    · rw [rcmp4 h h1]; subst h
      go_enter Try.func19, Try.ntmps19
      go_wp2
      go_ret
      exact ⟨rfl, (by repeat' (first | (with_reducible exact Below.refl _ _) | (with_reducible assumption) | (with_reducible refine Below.drew ?_) | (with_reducible refine below_drewN ?_ _) | (with_reducible refine bel_alloc ?_ _) | (with_reducible refine Below.setCell ?_ ?_ _) | (with_reducible refine bel_call ?_ (by assumption)) | (simp <;> omega)))⟩
  · rw [rcmp2 h]
    go_enter Try.func19, Try.ntmps19
    go_wp2
    go_ret
    exact ⟨rfl, (by repeat' (first | (with_reducible exact Below.refl _ _) | (with_reducible assumption) | (with_reducible refine Below.drew ?_) | (with_reducible refine below_drewN ?_ _) | (with_reducible refine bel_alloc ?_ _) | (with_reducible refine Below.setCell ?_ ?_ _) | (with_reducible refine bel_call ?_ (by assumption)) | (simp <;> omega)))⟩

/-- two boxes of a stamp each, made by the caller, behind a callee. -/
theorem cells2 {w w' : World} {a b c d : Value} {t u : TypeId} (hb : Below ((w.alloc (.cells #[a, b] t)).alloc (.cells #[c, d] u)).heap.size ((w.alloc (.cells #[a, b] t)).alloc (.cells #[c, d] u)) w') :
    w'.cell? ⟨w.heap.size, 0, none⟩ = some a ∧ w'.cell? ⟨w.heap.size, 1, none⟩ = some b ∧ w'.frozen? ⟨w.heap.size, 0, none⟩ = false ∧ w'.frozen? ⟨w.heap.size, 1, none⟩ = false ∧
    w'.cell? ⟨w.heap.size + 1, 0, none⟩ = some c ∧ w'.cell? ⟨w.heap.size + 1, 1, none⟩ = some d ∧ w'.frozen? ⟨w.heap.size + 1, 0, none⟩ = false ∧ w'.frozen? ⟨w.heap.size + 1, 1, none⟩ = false := by
  obtain ⟨hc, hf⟩ := bcell hb
  simp at hc hf
  refine ⟨?_, ?_, ?_, ?_, ?_, ?_, ?_, ?_⟩ <;> (try rw [hc _ _ (by omega)]) <;> (try rw [hf _ _ (by omega)]) <;> simp [go_sem]

set_option maxHeartbeats 400000 in
theorem next_any (a b : Int) (w : World) :
    Calls Try.prog 16 #[.agg #[.int .i64 a, .int .i64 b]] w (Ret (vse (next a b)) w) := by
  by_cases hr : right a b = true
  · have hbd := right_iff.1 hr
    have hr1 : (!right a b) = false := by simp [hr]
    by_cases hb : b = 65535
    · subst hb
      by_cases ha : a = 9007199254740991
      · have e : next a 65535 = (0, 0, 82) := by unfold next; rw [if_neg (by simp [hr]), if_pos ⟨ha, rfl⟩]
        subst ha
        rw [e]; clear e
        clear hr
        go_enter Try.func16, Try.ntmps16
        go_wp2_with (go_at_call 14; refine (right_any _ _ _).mono ?_; rintro e w' ⟨rfl, hb⟩; obtain ⟨c1, c2, c3, c4, c5, c6, c7, c8⟩ := cells2 hb)
        refine bodyPost_ret (v := vse (0, 0, 82)) (by simp [results, Try.results16, go_sem, c5, c6, vse]) rfl ⟨rfl, (by repeat' (first | (with_reducible exact Below.refl _ _) | (with_reducible assumption) | (with_reducible refine Below.drew ?_) | (with_reducible refine below_drewN ?_ _) | (with_reducible refine bel_alloc ?_ _) | (with_reducible refine Below.setCell ?_ ?_ _) | (with_reducible refine bel_call ?_ (by assumption)) | (simp <;> omega)))⟩
      · have e : next a 65535 = (a + 1, 0, 0) := by unfold next; rw [if_neg (by simp [hr]), if_neg (by simp [ha]), if_pos rfl]
        rw [e]; clear e
        clear hr
        go_enter Try.func16, Try.ntmps16
        go_wp2_with (go_at_call 14; refine (right_any _ _ _).mono ?_; rintro e w' ⟨rfl, hb⟩; obtain ⟨c1, c2, c3, c4, c5, c6, c7, c8⟩ := cells2 hb)
        refine bodyPost_ret (v := vse (a + 1, 0, 0)) (by simp [results, Try.results16, go_sem, c5, c6, vse]) rfl ⟨rfl, (by repeat' (first | (with_reducible exact Below.refl _ _) | (with_reducible assumption) | (with_reducible refine Below.drew ?_) | (with_reducible refine below_drewN ?_ _) | (with_reducible refine bel_alloc ?_ _) | (with_reducible refine Below.setCell ?_ ?_ _) | (with_reducible refine bel_call ?_ (by assumption)) | (simp <;> omega)))⟩
    · have e : next a b = (a, b + 1, 0) := by unfold next; rw [if_neg (by simp [hr]), if_neg (by simp [hb]), if_neg hb]
      rw [e]; clear e
      clear hr
      go_enter Try.func16, Try.ntmps16
      go_wp2_with (go_at_call 14; refine (right_any _ _ _).mono ?_; rintro e w' ⟨rfl, hb⟩; obtain ⟨c1, c2, c3, c4, c5, c6, c7, c8⟩ := cells2 hb)
      refine bodyPost_ret (v := vse (a, b + 1, 0)) (by simp [results, Try.results16, go_sem, c1, c2, c5, c6, vse]) rfl ⟨rfl, (by repeat' (first | (with_reducible exact Below.refl _ _) | (with_reducible assumption) | (with_reducible refine Below.drew ?_) | (with_reducible refine below_drewN ?_ _) | (with_reducible refine bel_alloc ?_ _) | (with_reducible refine Below.setCell ?_ ?_ _) | (with_reducible refine bel_call ?_ (by assumption)) | (simp <;> omega)))⟩
  · have hr1 : right a b = false := by simpa using hr
    have e : next a b = (0, 0, 80) := by unfold next; rw [if_pos hr1]
    rw [e]; clear e hr
    go_enter Try.func16, Try.ntmps16
    go_wp2_with (go_at_call 14; refine (right_any _ _ _).mono ?_; rintro e w' ⟨rfl, hb⟩; obtain ⟨c1, c2, c3, c4, c5, c6, c7, c8⟩ := cells2 hb)
    refine bodyPost_ret (v := vse (0, 0, 80)) (by simp [results, Try.results16, go_sem, c5, c6, vse]) rfl ⟨rfl, (by repeat' (first | (with_reducible exact Below.refl _ _) | (with_reducible assumption) | (with_reducible refine Below.drew ?_) | (with_reducible refine below_drewN ?_ _) | (with_reducible refine bel_alloc ?_ _) | (with_reducible refine Below.setCell ?_ ?_ _) | (with_reducible refine bel_call ?_ (by assumption)) | (simp <;> omega)))⟩

set_option maxHeartbeats 400000 in
theorem prev_any (a b : Int) (w : World) :
    Calls Try.prog 17 #[.agg #[.int .i64 a, .int .i64 b]] w (Ret (vse (prev a b)) w) := by
  by_cases hr : right a b = true
  · have hbd := right_iff.1 hr
    have hr1 : (!right a b) = false := by simp [hr]
    by_cases hb : b = 0
    · subst hb
      by_cases ha : a = 0
      · have e : prev a 0 = (0, 0, 82) := by unfold prev; rw [if_neg (by simp [hr]), if_pos ⟨ha, rfl⟩]
        subst ha
        rw [e]; clear e
        clear hr
        go_enter Try.func17, Try.ntmps17
        go_wp2_with (go_at_call 14; refine (right_any _ _ _).mono ?_; rintro e w' ⟨rfl, hb⟩; obtain ⟨c1, c2, c3, c4, c5, c6, c7, c8⟩ := cells2 hb)
        refine bodyPost_ret (v := vse (0, 0, 82)) (by simp [results, Try.results17, go_sem, c5, c6, vse]) rfl ⟨rfl, (by repeat' (first | (with_reducible exact Below.refl _ _) | (with_reducible assumption) | (with_reducible refine Below.drew ?_) | (with_reducible refine below_drewN ?_ _) | (with_reducible refine bel_alloc ?_ _) | (with_reducible refine Below.setCell ?_ ?_ _) | (with_reducible refine bel_call ?_ (by assumption)) | (simp <;> omega)))⟩
      · have e : prev a 0 = (a - 1, 65535, 0) := by unfold prev; rw [if_neg (by simp [hr]), if_neg (by simp [ha]), if_pos rfl]
        rw [e]; clear e
        clear hr
        go_enter Try.func17, Try.ntmps17
        go_wp2_with (go_at_call 14; refine (right_any _ _ _).mono ?_; rintro e w' ⟨rfl, hb⟩; obtain ⟨c1, c2, c3, c4, c5, c6, c7, c8⟩ := cells2 hb)
        refine bodyPost_ret (v := vse (a - 1, 65535, 0)) (by simp [results, Try.results17, go_sem, c5, c6, vse]) rfl ⟨rfl, (by repeat' (first | (with_reducible exact Below.refl _ _) | (with_reducible assumption) | (with_reducible refine Below.drew ?_) | (with_reducible refine below_drewN ?_ _) | (with_reducible refine bel_alloc ?_ _) | (with_reducible refine Below.setCell ?_ ?_ _) | (with_reducible refine bel_call ?_ (by assumption)) | (simp <;> omega)))⟩
    · have e : prev a b = (a, b - 1, 0) := by unfold prev; rw [if_neg (by simp [hr]), if_neg (by simp [hb]), if_neg hb]
      rw [e]; clear e
      clear hr
      go_enter Try.func17, Try.ntmps17
      go_wp2_with (go_at_call 14; refine (right_any _ _ _).mono ?_; rintro e w' ⟨rfl, hb⟩; obtain ⟨c1, c2, c3, c4, c5, c6, c7, c8⟩ := cells2 hb)
      refine bodyPost_ret (v := vse (a, b - 1, 0)) (by simp [results, Try.results17, go_sem, c1, c2, c5, c6, vse]) rfl ⟨rfl, (by repeat' (first | (with_reducible exact Below.refl _ _) | (with_reducible assumption) | (with_reducible refine Below.drew ?_) | (with_reducible refine below_drewN ?_ _) | (with_reducible refine bel_alloc ?_ _) | (with_reducible refine Below.setCell ?_ ?_ _) | (with_reducible refine bel_call ?_ (by assumption)) | (simp <;> omega)))⟩
  · have hr1 : right a b = false := by simpa using hr
    have e : prev a b = (0, 0, 80) := by unfold prev; rw [if_pos hr1]
    rw [e]; clear e hr
    go_enter Try.func17, Try.ntmps17
    go_wp2_with (go_at_call 14; refine (right_any _ _ _).mono ?_; rintro e w' ⟨rfl, hb⟩; obtain ⟨c1, c2, c3, c4, c5, c6, c7, c8⟩ := cells2 hb)
    refine bodyPost_ret (v := vse (0, 0, 80)) (by simp [results, Try.results17, go_sem, c5, c6, vse]) rfl ⟨rfl, (by repeat' (first | (with_reducible exact Below.refl _ _) | (with_reducible assumption) | (with_reducible refine Below.drew ?_) | (with_reducible refine below_drewN ?_ _) | (with_reducible refine bel_alloc ?_ _) | (with_reducible refine Below.setCell ?_ ?_ _) | (with_reducible refine bel_call ?_ (by assumption)) | (simp <;> omega)))⟩

set_option maxHeartbeats 400000 in
theorem rNext_any (a b : Int) (w : World) :
    Calls Try.prog 20 #[.agg #[.int .i64 a, .int .i64 b]] w (Ret (vse (next a b)) w) := by
  by_cases hr : right a b = true
  · have hbd := right_iff.1 hr
    have hr1 : (!right a b) = false := by simp [hr]
    by_cases hb : b = 65535
    · subst hb
      by_cases ha : a = 9007199254740991
      · have e : next a 65535 = (0, 0, 82) := by unfold next; rw [if_neg (by simp [hr]), if_pos ⟨ha, rfl⟩]
        subst ha
        rw [e]; clear e
        clear hr
        go_enter Try.func20, Try.ntmps20
        go_wp2_with (go_at_call 18; refine (rRight_any _ _ _).mono ?_; rintro e w' ⟨rfl, hb⟩; obtain ⟨c1, c2, c3, c4, c5, c6, c7, c8⟩ := cells2 hb)
        refine bodyPost_ret (v := vse (0, 0, 82)) (by simp [results, Try.results20, go_sem, c5, c6, vse]) rfl ⟨rfl, (by repeat' (first | (with_reducible exact Below.refl _ _) | (with_reducible assumption) | (with_reducible refine Below.drew ?_) | (with_reducible refine below_drewN ?_ _) | (with_reducible refine bel_alloc ?_ _) | (with_reducible refine Below.setCell ?_ ?_ _) | (with_reducible refine bel_call ?_ (by assumption)) | (simp <;> omega)))⟩
      · have e : next a 65535 = (a + 1, 0, 0) := by unfold next; rw [if_neg (by simp [hr]), if_neg (by simp [ha]), if_pos rfl]
        rw [e]; clear e
        clear hr
        go_enter Try.func20, Try.ntmps20
        go_wp2_with (go_at_call 18; refine (rRight_any _ _ _).mono ?_; rintro e w' ⟨rfl, hb⟩; obtain ⟨c1, c2, c3, c4, c5, c6, c7, c8⟩ := cells2 hb)
        refine bodyPost_ret (v := vse (a + 1, 0, 0)) (by simp [results, Try.results20, go_sem, c5, c6, vse]) rfl ⟨rfl, (by repeat' (first | (with_reducible exact Below.refl _ _) | (with_reducible assumption) | (with_reducible refine Below.drew ?_) | (with_reducible refine below_drewN ?_ _) | (with_reducible refine bel_alloc ?_ _) | (with_reducible refine Below.setCell ?_ ?_ _) | (with_reducible refine bel_call ?_ (by assumption)) | (simp <;> omega)))⟩
    · have e : next a b = (a, b + 1, 0) := by unfold next; rw [if_neg (by simp [hr]), if_neg (by simp [hb]), if_neg hb]
      rw [e]; clear e
      clear hr
      go_enter Try.func20, Try.ntmps20
      go_wp2_with (go_at_call 18; refine (rRight_any _ _ _).mono ?_; rintro e w' ⟨rfl, hb⟩; obtain ⟨c1, c2, c3, c4, c5, c6, c7, c8⟩ := cells2 hb)
      refine bodyPost_ret (v := vse (a, b + 1, 0)) (by simp [results, Try.results20, go_sem, c1, c2, c5, c6, vse]) rfl ⟨rfl, (by repeat' (first | (with_reducible exact Below.refl _ _) | (with_reducible assumption) | (with_reducible refine Below.drew ?_) | (with_reducible refine below_drewN ?_ _) | (with_reducible refine bel_alloc ?_ _) | (with_reducible refine Below.setCell ?_ ?_ _) | (with_reducible refine bel_call ?_ (by assumption)) | (simp <;> omega)))⟩
  · have hr1 : right a b = false := by simpa using hr
    have e : next a b = (0, 0, 80) := by unfold next; rw [if_pos hr1]
    rw [e]; clear e hr
    go_enter Try.func20, Try.ntmps20
    go_wp2_with (go_at_call 18; refine (rRight_any _ _ _).mono ?_; rintro e w' ⟨rfl, hb⟩; obtain ⟨c1, c2, c3, c4, c5, c6, c7, c8⟩ := cells2 hb)
    refine bodyPost_ret (v := vse (0, 0, 80)) (by simp [results, Try.results20, go_sem, c5, c6, vse]) rfl ⟨rfl, (by repeat' (first | (with_reducible exact Below.refl _ _) | (with_reducible assumption) | (with_reducible refine Below.drew ?_) | (with_reducible refine below_drewN ?_ _) | (with_reducible refine bel_alloc ?_ _) | (with_reducible refine Below.setCell ?_ ?_ _) | (with_reducible refine bel_call ?_ (by assumption)) | (simp <;> omega)))⟩

set_option maxHeartbeats 400000 in
theorem rPrev_any (a b : Int) (w : World) :
    Calls Try.prog 21 #[.agg #[.int .i64 a, .int .i64 b]] w (Ret (vse (prev a b)) w) := by
  by_cases hr : right a b = true
  · have hbd := right_iff.1 hr
    have hr1 : (!right a b) = false := by simp [hr]
    by_cases hb : b = 0
    · subst hb
      by_cases ha : a = 0
      · have e : prev a 0 = (0, 0, 82) := by unfold prev; rw [if_neg (by simp [hr]), if_pos ⟨ha, rfl⟩]
        subst ha
        rw [e]; clear e
        clear hr
        go_enter Try.func21, Try.ntmps21
        go_wp2_with (go_at_call 18; refine (rRight_any _ _ _).mono ?_; rintro e w' ⟨rfl, hb⟩; obtain ⟨c1, c2, c3, c4, c5, c6, c7, c8⟩ := cells2 hb)
        refine bodyPost_ret (v := vse (0, 0, 82)) (by simp [results, Try.results21, go_sem, c5, c6, vse]) rfl ⟨rfl, (by repeat' (first | (with_reducible exact Below.refl _ _) | (with_reducible assumption) | (with_reducible refine Below.drew ?_) | (with_reducible refine below_drewN ?_ _) | (with_reducible refine bel_alloc ?_ _) | (with_reducible refine Below.setCell ?_ ?_ _) | (with_reducible refine bel_call ?_ (by assumption)) | (simp <;> omega)))⟩
      · have e : prev a 0 = (a - 1, 65535, 0) := by unfold prev; rw [if_neg (by simp [hr]), if_neg (by simp [ha]), if_pos rfl]
        rw [e]; clear e
        clear hr
        go_enter Try.func21, Try.ntmps21
        go_wp2_with (go_at_call 18; refine (rRight_any _ _ _).mono ?_; rintro e w' ⟨rfl, hb⟩; obtain ⟨c1, c2, c3, c4, c5, c6, c7, c8⟩ := cells2 hb)
        refine bodyPost_ret (v := vse (a - 1, 65535, 0)) (by simp [results, Try.results21, go_sem, c5, c6, vse]) rfl ⟨rfl, (by repeat' (first | (with_reducible exact Below.refl _ _) | (with_reducible assumption) | (with_reducible refine Below.drew ?_) | (with_reducible refine below_drewN ?_ _) | (with_reducible refine bel_alloc ?_ _) | (with_reducible refine Below.setCell ?_ ?_ _) | (with_reducible refine bel_call ?_ (by assumption)) | (simp <;> omega)))⟩
    · have e : prev a b = (a, b - 1, 0) := by unfold prev; rw [if_neg (by simp [hr]), if_neg (by simp [hb]), if_neg hb]
      rw [e]; clear e
      clear hr
      go_enter Try.func21, Try.ntmps21
      go_wp2_with (go_at_call 18; refine (rRight_any _ _ _).mono ?_; rintro e w' ⟨rfl, hb⟩; obtain ⟨c1, c2, c3, c4, c5, c6, c7, c8⟩ := cells2 hb)
      refine bodyPost_ret (v := vse (a, b - 1, 0)) (by simp [results, Try.results21, go_sem, c1, c2, c5, c6, vse]) rfl ⟨rfl, (by repeat' (first | (with_reducible exact Below.refl _ _) | (with_reducible assumption) | (with_reducible refine Below.drew ?_) | (with_reducible refine below_drewN ?_ _) | (with_reducible refine bel_alloc ?_ _) | (with_reducible refine Below.setCell ?_ ?_ _) | (with_reducible refine bel_call ?_ (by assumption)) | (simp <;> omega)))⟩
  · have hr1 : right a b = false := by simpa using hr
    have e : prev a b = (0, 0, 80) := by unfold prev; rw [if_pos hr1]
    rw [e]; clear e hr
    go_enter Try.func21, Try.ntmps21
    go_wp2_with (go_at_call 18; refine (rRight_any _ _ _).mono ?_; rintro e w' ⟨rfl, hb⟩; obtain ⟨c1, c2, c3, c4, c5, c6, c7, c8⟩ := cells2 hb)
    refine bodyPost_ret (v := vse (0, 0, 80)) (by simp [results, Try.results21, go_sem, c5, c6, vse]) rfl ⟨rfl, (by repeat' (first | (with_reducible exact Below.refl _ _) | (with_reducible assumption) | (with_reducible refine Below.drew ?_) | (with_reducible refine below_drewN ?_ _) | (with_reducible refine bel_alloc ?_ _) | (with_reducible refine Below.setCell ?_ ?_ _) | (with_reducible refine bel_call ?_ (by assumption)) | (simp <;> omega)))⟩


end Hlc
end Go.Proofs.Ytogooghigeemaaa
