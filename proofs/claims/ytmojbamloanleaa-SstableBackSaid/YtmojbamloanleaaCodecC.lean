/- codec: Compare of both; spoil. -/
import Derived.Test.YtmojbamloanleaaBytesFn
set_option linter.unusedVariables false
set_option linter.unusedSimpArgs false
namespace Go.Proofs.Ytmojbamloanleaa
open Go.RowKit
namespace Codec
set_option maxHeartbeats 400000 in
theorem ccompare_any (v u : Value) (l m : List Int) (w : World) (h : IsB w v l) (k : IsB w u m) :
    Calls Try.prog 48 #[v, u] w fun e w' => e = .returned (.int .i64 (cmpB l m)) ∧ w = w' := by
  have HC := Lib.hid (bcompare_any v u l m w h k)
  clear h k
  go_enter Try.func48, Try.ntmps48
  go_wp2_with fail
  refine HC.out.mono ?_
  rintro e w1 ⟨rfl, rfl⟩
  go_wp2_with fail
  go_ret
  exact ⟨rfl, rfl⟩
theorem cmpB_step {l m : List Int} {k : Nat} {x y : Int} (hx : l[k]? = some x) (hy : m[k]? = some y) : cmpB (l.drop k) (m.drop k) = if x < y then -1 else if y < x then 1 else cmpB (l.drop (k + 1)) (m.drop (k + 1)) := by
  obtain ⟨h1, h2⟩ := List.getElem?_eq_some_iff.1 hx
  obtain ⟨h3, h4⟩ := List.getElem?_eq_some_iff.1 hy
  rw [List.drop_eq_getElem_cons h1, List.drop_eq_getElem_cons h3, h2, h4]
  rfl
theorem cmpB_end {l m : List Int} {k : Nat} (h : k ≤ l.length) (h' : k ≤ m.length) (he : k = l.length ∨ k = m.length) : cmpB (l.drop k) (m.drop k) = if l.length = m.length then 0 else if l.length < m.length then -1 else 1 := by
  rcases he with he | he
  · rw [List.drop_of_length_le (l := l) (by omega)]
    by_cases hm : k = m.length
    · rw [List.drop_of_length_le (l := m) (by omega), if_pos (by omega)]; rfl
    · rw [List.drop_eq_getElem_cons (show k < m.length by omega), if_neg (by omega), if_pos (by omega)]; rfl
  · rw [List.drop_of_length_le (l := m) (by omega)]
    by_cases hm : k = l.length
    · rw [List.drop_of_length_le (l := l) (by omega), if_pos (by omega)]; rfl
    · rw [List.drop_eq_getElem_cons (show k < l.length by omega), if_neg (by omega), if_neg (by omega)]; rfl
set_option maxRecDepth 100000 in
set_option maxHeartbeats 1000000 in
theorem rCompare_any (v u : Value) (l m : List Int) (w : World) (h : IsB w v l) (k : IsB w u m) :
    Calls Try.prog 54 #[v, u] w (Ret (.int .i64 (cmpB l m)) w) := by
  have hm := h.max
  have hm2 := k.max
  obtain ⟨ao, cap, rfl, hnc, _, _⟩ := h.form
  obtain ⟨bo, bcap, rfl, hbc, _, _⟩ := k.form
  have HL := Lib.hid h
  have HM := Lib.hid k
  clear h k
  go_enter Try.func54, Try.ntmps54
  go_wp2_with fail
  go_loopw [5] (fun i wr => ∃ k : Nat, k ≤ l.length ∧ k ≤ m.length ∧ i = .int .i64 k ∧ Hid (cmpB l m = cmpB (l.drop k) (m.drop k)) ∧ Hid (Below w.heap.size w wr)) (fun i _ => l.length - (intOf i).toNat)
  case atStart => exact ⟨0, by omega, by omega, rfl, rfl, Below.refl _ _⟩
  case round =>
    obtain ⟨k, hk1, hk2, rfl, hc, hbel⟩ := hrel
    by_cases hlt : k < l.length ∧ k < m.length
    · obtain ⟨h1, h2⟩ := hlt
      obtain ⟨b, o, x, rfl, hbb, hx, hxc, hx1, hx2⟩ := (HL.out.below hbel.out).at_ (k := k) h1
      obtain ⟨b2, o2, y, rfl, hbb2, hy, hyc, hy1, hy2⟩ := (HM.out.below hbel.out).at_ (k := k) h2
      have HS := Lib.hid (hc.out.trans (cmpB_step hx.out hy.out))
      have q1 : decide (k < l.length) = true := by simp; omega
      have q2 : decide (k < m.length) = true := by simp; omega
      by_cases hxy : x = y
      · have e1 : (x != y) = false := by simp [hxy]
        have HE : cmpB l m = cmpB (l.drop (k + 1)) (m.drop (k + 1)) := by rw [HS.out, if_neg (by omega), if_neg (by omega)]
        have HE := Lib.hid HE
        clear hxy
        go_wp2_with fail
        go_quiet (fail)
        go_wp2_with fail
        go_roundw
        case rel => exact ⟨k + 1, by omega, by omega, by go_num, HE.out, Lib.hid (below_drewN hbel.out _)⟩
        case measure => simp [intOf]; omega
      · have e1 : (x != y) = true := by simp [hxy]
        by_cases hlt : x < y
        · have HE := Lib.hid (HS.out.trans (if_pos hlt))
          clear hxy
          go_wp2_with fail
          go_quiet (fail)
          go_wp2_with fail
          go_quiet (fail)
          go_wp2_with fail
          go_ret
          exact ⟨by rw [HE.out]; rfl, by exact below_drewN (below_drewN hbel.out _) _⟩
        · have HE := Lib.hid (HS.out.trans ((if_neg hlt).trans (if_pos (by omega))))
          have e2 : decide (x < y) = false := by simp; omega
          clear hxy hlt
          go_wp2_with fail
          go_quiet (fail)
          go_wp2_with fail
          go_quiet (fail)
          go_wp2_with fail
          go_ret
          exact ⟨by rw [HE.out]; rfl, by exact below_drewN (below_drewN hbel.out _) _⟩
    · have HE := Lib.hid (hc.out.trans (cmpB_end hk1 hk2 (by omega)))
      by_cases a : k < l.length
      · have q1 : decide (k < l.length) = true := by simp; omega
        have q2 : decide (k < m.length) = false := by simp; omega
        have q3 : (l.length == m.length) = false := beq_eq_false_iff_ne.2 (by omega)
        have q4 : ((l.length : Int) == (m.length : Int)) = false := beq_eq_false_iff_ne.2 (by omega)
        have q5 : decide (l.length < m.length) = false := by simp; omega
        have HE := Lib.hid (HE.out.trans ((if_neg (by omega)).trans (if_neg (by omega))))
        have b1 : k = m.length := by omega
        have b2 : m.length < l.length := by omega
        have B1 := Lib.hid b1
        clear b1 hlt a
        go_wp2_with fail
        go_ret
        exact ⟨by rw [HE.out]; rfl, hbel.out⟩
      · have q1 : decide (k < l.length) = false := by simp; omega
        by_cases c : l.length = m.length
        · have q3 : (l.length == m.length) = true := by rw [beq_iff_eq]; exact c
          have q4 : ((l.length : Int) == (m.length : Int)) = true := by rw [beq_iff_eq]; omega
          have HE := Lib.hid (HE.out.trans (if_pos c))
          clear c hlt a
          go_wp2_with fail
          go_ret
          exact ⟨by rw [HE.out]; rfl, hbel.out⟩
        · have q3 : (l.length == m.length) = false := beq_eq_false_iff_ne.2 (by omega)
          have q4 : ((l.length : Int) == (m.length : Int)) = false := beq_eq_false_iff_ne.2 (by omega)
          have q5 : decide (l.length < m.length) = true := by simp; omega
          have HE := Lib.hid (HE.out.trans ((if_neg c).trans (if_pos (by omega))))
          clear c hlt a
          go_wp2_with fail
          go_ret
          exact ⟨by rw [HE.out]; rfl, hbel.out⟩
/-- what spoil leaves of the rest -/
def SpoilPost (v : Value) (n : Nat) (w : World) (e : Ending) (w' : World) : Prop := e = .returned (.int .i64 ((n : Int) + 2)) ∧ w.grownBy w' v.ownBlock
end Codec
end Go.Proofs.Ytmojbamloanleaa
