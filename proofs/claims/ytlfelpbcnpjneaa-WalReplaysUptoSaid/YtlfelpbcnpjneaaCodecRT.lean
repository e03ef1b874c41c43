/- codec: the document's TakeNumber. -/
import Derived.Test.YtlfelpbcnpjneaaCodecT
namespace Go.Proofs.Ytlfelpbcnpjneaa
open Go.RowKit
namespace Codec
theorem v128_split : ∀ (j : Nat) (L : List Int), j ≤ L.length → v128 L = v128 (L.take j) + 128 ^ j * v128 (L.drop j)
  | 0, L, _ => by simp [v128]
  | j + 1, [], h => by simp at h
  | j + 1, x :: L, h => by
    have ih := v128_split j L (by simpa using h)
    simp only [List.take_succ_cons, List.drop_succ_cons, v128, Int.pow_succ]
    rw [ih]
    have : (128 : Int) ^ j * 128 * v128 (L.drop j) = 128 * ((128 : Int) ^ j * v128 (L.drop j)) := by rw [Int.mul_comm ((128 : Int) ^ j) 128, Int.mul_assoc]
    omega
theorem v128_drop_le (j : Nat) (L : List Int) (h : j ≤ L.length) : v128 (L.drop j) ≤ v128 L := by
  have e := v128_split j L h
  have r1 := v128_rng (L.take j)
  have r2 := v128_rng (L.drop j)
  have p : (1 : Int) ≤ 128 ^ j := by exact_mod_cast Nat.one_le_pow j 128 (by decide)
  have : 1 * v128 (L.drop j) ≤ 128 ^ j * v128 (L.drop j) := Int.mul_le_mul_of_nonneg_right p r2.1
  omega
theorem v128_max {l : List Int} {e : Nat} {c : Int} (he : e < 10) (hx : l[e]? = some c) (hc0 : 0 ≤ c) (hc : c < 128) (h9 : e = 9 → c ≤ 1) : v128 (l.take (e + 1)) ≤ 18446744073709551615 := by
  have hlen : (l.take e).length = e := by
    have := (List.getElem?_eq_some_iff.1 hx).1
    rw [List.length_take]; omega
  rw [take_snoc hx, v128_snoc, hlen]
  have r := v128_rng (l.take e)
  rw [hlen] at r
  have p2 : (128 : Int) ^ 9 = 9223372036854775808 := by decide
  by_cases h : e = 9
  · have := h9 h
    subst h
    rw [p2] at r ⊢
    omega
  · have p1 : (128 : Int) ^ (e + 1) ≤ 128 ^ 9 := by exact_mod_cast Nat.pow_le_pow_right (n := 128) (by decide) (show e + 1 ≤ 9 by omega)
    rw [Int.pow_succ] at p1
    have p3 : (128 : Int) ^ e * (c % 128) ≤ 128 ^ e * 127 := Int.mul_le_mul_of_nonneg_left (by omega) (by omega)
    omega
theorem v128_at {L : List Int} {j : Nat} {c : Int} (h : L[j]? = some c) : v128 (L.drop j) = c % 128 + 128 * v128 (L.drop (j + 1)) := by
  obtain ⟨h1, h2⟩ := List.getElem?_eq_some_iff.1 h
  rw [List.drop_eq_getElem_cons h1, h2]
  rfl
def RTPost (l : List Int) (w : World) (e : Ending) (w' : World) : Prop := e = .returned (.tuple #[.int .u64 (takeN l).1, .int .i64 (takeN l).2.1, .int .i64 (takeN l).2.2]) ∧ w = w'
set_option maxRecDepth 100000 in
set_option maxHeartbeats 2000000 in
theorem rTakeNumber_any (v : Value) (l : List Int) (w : World) (h : IsB w v l) :
    Calls Try.prog 34 #[v] w (RTPost l w) := by
  have hm := h.max
  obtain ⟨ao, cap, rfl, hnc, _, _⟩ := h.form
  have HB := Lib.hid h
  clear h
  go_enter Try.func34, Try.ntmps34
  go_wp2_with fail
  go_loop [5, 6] (fun y i => (∃ k : Nat, k ≤ 10 ∧ k ≤ l.length ∧ i = .int .i64 k ∧ y = .int .i64 (-1) ∧ Hid (∀ x ∈ l.take k, 128 ≤ x)) ∨ (∃ (e : Nat) (c : Int), e < 10 ∧ e < l.length ∧ i = .int .i64 ((e : Int) + 1) ∧ y = .int .i64 e ∧ c < 128 ∧ Hid (l[e]? = some c) ∧ Hid (∀ x ∈ l.take e, 128 ≤ x))) (fun _ i => 10 - (intOf i).toNat)
  case atStart => exact .inl ⟨0, by omega, by omega, rfl, rfl, fun x hx => by simp at hx⟩
  case round =>
    rcases hrel with ⟨k, hk, hkl, rfl, rfl, hall⟩ | ⟨e, c, he, hel, rfl, rfl, hc, hx, hall⟩
    · by_cases h1 : k < l.length ∧ k < 10
      · obtain ⟨h1, h2⟩ := h1
        obtain ⟨b, o, c, rfl, hbb, hx, hc, hc1, hc2⟩ := HB.out.at_ (k := k) h1
        by_cases hhi : c < 128
        · go_wp2_with fail
          go_round
          case rel => exact .inr ⟨k, c, h2, h1, rfl, rfl, hhi, hx, hall⟩
          case measure => simp [intOf]; omega
        · go_wp2_with fail
          go_round
          case rel => exact .inl ⟨k + 1, by omega, by omega, by go_num, rfl, all_snoc hall.out hx.out (by omega)⟩
          case measure => simp [intOf]; omega
      · by_cases h10 : k < 10
        · have hkl2 : k = l.length := by omega
          have HT := Lib.hid (take_short hall.out h10 hkl2)
          have q1 : decide (k < l.length) = false := by simp; omega
          have q2 : decide (l.length < 10) = true := by simp; omega
          have q3 : decide ((l.length : Int) < 10) = true := by simp; omega
          clear h1 hkl2
          go_wp2_with fail
          all_goals
            go_ret3
            exact ⟨ret3 HT.out, rfl⟩
        · have hk10 : k = 10 := by omega
          subst hk10
          have HT := Lib.hid (take_long hall.out hkl)
          have q3 : decide ((l.length : Int) < 10) = false := by simp; omega
          clear h1 h10
          go_wp2_with fail
          all_goals
            go_ret3
            exact ⟨ret3 HT.out, rfl⟩
    · obtain ⟨b, o, c', rfl, hbb, hx', hcc, hc1, hc2⟩ := HB.out.at_ (k := e) hel
      have ec : c' = c := by have := hx.out; rw [hx'.out] at this; cases this; rfl
      subst ec
      by_cases hz : 0 < e ∧ c' = 0
      · obtain ⟨hz1, rfl⟩ := hz
        have HT := Lib.hid (take_form hall.out he hx.out (by omega) (.inl ⟨hz1, rfl⟩))
        go_wp2_with fail
        all_goals
          go_ret3
          exact ⟨ret3 HT.out, rfl⟩
      · by_cases h9 : e = 9 ∧ 1 < c'
        · obtain ⟨rfl, h91⟩ := h9
          have HT := Lib.hid (take_form hall.out he hx.out (by omega) (.inr ⟨rfl, h91⟩))
          have hc0 : (c' == 0) = false := beq_eq_false_iff_ne.2 (by omega)
          clear hz
          go_wp2_with fail
          all_goals
            go_ret3
            exact ⟨ret3 HT.out, rfl⟩
        · have HT := Lib.hid (take_ok hall.out he hx.out (by omega) (by omega))
          have hmax := v128_max he hx.out hc1 hc (by omega)
          have HM := Lib.hid hmax
          have hlen : (l.take (e + 1)).length = e + 1 := by rw [List.length_take]; omega
          have HLEN := Lib.hid hlen
          have q : e = 0 ∨ (0 < e ∧ e ≤ 8 ∧ (c' == 0) = false) ∨ (e = 9 ∧ c' ≤ 1 ∧ (c' == 0) = false) := by
            rcases Nat.eq_zero_or_pos e with h | h
            · exact .inl h
            · have hc0 : (c' == 0) = false := beq_eq_false_iff_ne.2 (by omega)
              rcases Nat.lt_or_ge e 9 with h8 | h8
              · exact .inr (.inl ⟨h, by omega, hc0⟩)
              · exact .inr (.inr ⟨by omega, by omega, hc0⟩)
          clear hmax hz h9 hlen
          obtain ⟨E, hE⟩ : ∃ E : Nat, E = e := ⟨_, rfl⟩
          have HE := Lib.hid hE
          rw [← hE] at HT HM HLEN
          have hE9 : E ≤ 9 := by omega
          have hEl : E < l.length := by omega
          clear hE
          rcases Nat.lt_or_ge (e + 1) l.length with s1 | s1 <;> rcases q with rfl | ⟨e1, e2, q0⟩ | ⟨rfl, q9, q0⟩
          all_goals (try simp only [Nat.add_zero] at hcc)
          all_goals
            go_wp2_with fail
            go_loop [7, 8] (fun n i => (∃ (j : Nat) (m : Int), j ≤ E ∧ i = .int .i64 j ∧ n = .int .u64 m ∧ Hid (m = v128 ((l.take (E + 1)).drop (j + 1)))) ∨ (i = .int .i64 (-1) ∧ ∃ m : Int, n = .int .u64 m ∧ Hid (m = v128 (l.take (E + 1))))) (fun _ i => (intOf i + 1).toNat)
            case atStart =>
              refine .inl ⟨E, 0, Nat.le_refl _, by have := HE.out; subst this; rfl, rfl, Lib.hid ?_⟩
              rw [List.drop_of_length_le (by rw [HLEN.out]; omega)]
              rfl
            case round =>
              rcases hrel with ⟨j, m, hj, rfl, rfl, hm⟩ | ⟨rfl, m, rfl, hm⟩
              · obtain ⟨_, _, cj, hb1, _, hxj, hcj, b1, b2⟩ := HB.out.at_ (k := j) (by omega)
                cases hb1
                have hv := v128_at (L := l.take (E + 1)) (j := j) (c := cj) (by rw [List.getElem?_take_of_lt (by omega)]; exact hxj.out)
                have hle := v128_drop_le j (l.take (E + 1)) (by rw [HLEN.out]; omega)
                have hr := v128_rng ((l.take (E + 1)).drop (j + 1))
                have hM := HM.out
                rw [← hm.out] at hv hr
                have m0 : 0 ≤ m := hr.1
                have m1 : cj % 128 + 128 * m ≤ 18446744073709551615 := by omega
                have HV := Lib.hid hv
                clear hv hle hr hM
                go_wp2_with fail
                go_round
                case rel =>
                  rcases Nat.eq_zero_or_pos j with rfl | hp
                  · exact .inr ⟨rfl, _, rfl, Lib.hid (by have := HV.out; rw [List.drop_zero] at this; omega)⟩
                  · exact .inl ⟨j - 1, _, by omega, by congr 1; omega, rfl, Lib.hid (by have := HV.out; rw [show j - 1 + 1 = j from by omega]; omega)⟩
                case measure => simp [intOf] <;> omega
              · go_wp2_with fail
                go_ret3
                refine ⟨ret3 (HT.out.trans ?_), rfl⟩
                rw [← hm.out]
                have := HE.out
                subst this
                rfl
end Codec
end Go.Proofs.Ytlfelpbcnpjneaa
