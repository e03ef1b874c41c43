/- codec: TakeNumber of both. -/
import Derived.Test.YtlfelpbcnpjneaaCodecN
namespace Go.Proofs.Ytlfelpbcnpjneaa
open Go.RowKit
namespace Codec
theorem bits_u64_rng (op : BinOp) (x y : Int) : 0 ≤ bits op .u64 x y ∧ bits op .u64 x y ≤ 18446744073709551615 := by
  unfold bits
  simp [IntKind.wrap, IntKind.bits, IntKind.signed]; omega
theorem v128_rng : ∀ (l : List Int), 0 ≤ v128 l ∧ v128 l < 128 ^ l.length
  | [] => by simp [v128]
  | x :: l => by
    have ih := v128_rng l
    simp only [v128, List.length_cons, Int.pow_succ]
    generalize (128 : Int) ^ l.length = B at *
    omega
theorem v128_snoc : ∀ (l : List Int) (x : Int), v128 (l ++ [x]) = v128 l + 128 ^ l.length * (x % 128)
  | [], x => by simp [v128]
  | y :: l, x => by
    simp only [List.cons_append, v128, v128_snoc l x, List.length_cons, Int.pow_succ]
    have : (128 : Int) ^ l.length * 128 * (x % 128) = 128 * ((128 : Int) ^ l.length * (x % 128)) := by
      rw [Int.mul_comm ((128 : Int) ^ l.length) 128, Int.mul_assoc]
    omega
theorem pow128 (k : Nat) : (2 : Nat) ^ (7 * k) = 128 ^ k := by rw [Nat.pow_mul]
theorem step_or {k : Nat} {n c : Int} (hn : 0 ≤ n ∧ n < 128 ^ k) (hc : 0 ≤ c ∧ c ≤ 255) (hs : n + 128 ^ k * (c % 128) < 18446744073709551616) :
    bits .or .u64 n (IntKind.u64.wrap (IntKind.u64.wrap (bits .and .u8 c 127) * 2 ^ (7 * k))) = n + 128 ^ k * (c % 128) := by
  obtain ⟨N, rfl⟩ := Int.eq_ofNat_of_zero_le hn.1
  obtain ⟨C, rfl⟩ := Int.eq_ofNat_of_zero_le hc.1
  have e1 := bits_and_mod (k := .u8) rfl C 7 (by have : IntKind.u8.bits = 8 := rfl
                                                 rw [this]; omega) (by decide)
  have e1' : bits .and .u8 (C : Int) 127 = ((C % 128 : Nat) : Int) := e1
  have hB : IntKind.u64.bits = 64 := rfl
  have hN : N < 2 ^ (7 * k) := by rw [pow128]; exact_mod_cast hn.2
  have hs' : N + 2 ^ (7 * k) * (C % 128) < 18446744073709551616 := by
    rw [pow128]
    have : ((N + 128 ^ k * (C % 128) : Nat) : Int) < 18446744073709551616 := by push_cast; exact hs
    omega
  rw [e1', wrap_nat (k := .u64) rfl (C % 128) (by rw [hB]; omega)]
  have e2 : ((C % 128 : Nat) : Int) * 2 ^ (7 * k) = ((2 ^ (7 * k) * (C % 128) : Nat) : Int) := by push_cast; rw [Int.mul_comm]
  rw [e2, wrap_nat (k := .u64) rfl _ (by rw [hB]; omega), bits_or_add (k := .u64) rfl N (C % 128) (7 * k) hN (by rw [hB]; omega), pow128]
  push_cast
  rfl
theorem ret3 {t : Int × Int × Int} {a b c : Int} (h : t = (a, b, c)) : Ending.returned (.tuple #[.int .u64 a, .int .i64 b, .int .i64 c]) = .returned (.tuple #[.int .u64 t.1, .int .i64 t.2.1, .int .i64 t.2.2]) := by subst h; rfl
theorem find10_none {l : List Int} {k : Nat} (h : ∀ x ∈ l.take k, 128 ≤ x) (hk : k = 10 ∨ k = l.length ∧ k < 10) : (l.take 10).findIdx? (fun x => decide (x < 128)) = none := by
  rw [List.findIdx?_eq_none_iff]
  intro x hx
  have hx' : x ∈ l.take k := by
    rcases hk with rfl | ⟨rfl, h1⟩
    · exact hx
    · rw [List.take_of_length_le (by omega)] at hx ⊢; exact hx
  have := h x hx'
  simp; omega
theorem find10_some {l : List Int} {k : Nat} {c : Int} (h : ∀ x ∈ l.take k, 128 ≤ x) (hk : k < 10) (hx : l[k]? = some c) (hc : c < 128) : (l.take 10).findIdx? (fun x => decide (x < 128)) = some k := by
  have hkl := (List.getElem?_eq_some_iff.1 hx).1
  have e : l.take 10 = l.take k ++ c :: (l.drop (k + 1)).take (9 - k) := by
    have h1 : l.take 10 = l.take (k + (1 + (9 - k))) := by congr 1; omega
    rw [h1, List.take_add, List.take_add]
    congr 1
    have h2 : (l.drop k).take 1 = [c] := by
      rw [List.drop_eq_getElem_cons hkl]
      have := (List.getElem?_eq_some_iff.1 hx).2
      simp [this]
    rw [h2, List.drop_drop]
    rfl
  rw [e, List.findIdx?_append]
  have h1 : (l.take k).findIdx? (fun x => decide (x < 128)) = none := by
    rw [List.findIdx?_eq_none_iff]
    intro x hx
    have := h x hx
    simp; omega
  rw [h1]
  simp [List.findIdx?_cons, hc]
  omega
theorem take_short {l : List Int} {k : Nat} (h : ∀ x ∈ l.take k, 128 ≤ x) (hk : k < 10) (he : k = l.length) : takeN l = (0, 0, 10) := by
  unfold takeN
  rw [find10_none h (.inr ⟨he, hk⟩)]
  show (if _ then _ else _) = _
  rw [if_pos (by omega)]
theorem take_long {l : List Int} (h : ∀ x ∈ l.take 10, 128 ≤ x) (he : 10 ≤ l.length) : takeN l = (0, 0, 11) := by
  unfold takeN
  rw [find10_none h (.inl rfl)]
  show (if _ then _ else _) = _
  rw [if_neg (by omega)]
theorem take_form {l : List Int} {k : Nat} {c : Int} (h : ∀ x ∈ l.take k, 128 ≤ x) (hk : k < 10) (hx : l[k]? = some c) (hc : c < 128) (hb : 0 < k ∧ c = 0 ∨ k = 9 ∧ 1 < c) : takeN l = (0, 0, 11) := by
  unfold takeN
  rw [find10_some h hk hx hc]
  show (if _ then _ else _) = _
  have hg : l.getD k 0 = c := by simp [List.getD, hx]
  rw [if_pos]
  rcases hb with ⟨h1, h2⟩ | ⟨h1, h2⟩
  · exact .inl ⟨h1, by rw [hg]; exact h2⟩
  · exact .inr ⟨h1, by rw [← h1, hg]; exact h2⟩
theorem take_ok {l : List Int} {k : Nat} {c : Int} (h : ∀ x ∈ l.take k, 128 ≤ x) (hk : k < 10) (hx : l[k]? = some c) (hc : c < 128) (hb : ¬ (0 < k ∧ c = 0 ∨ k = 9 ∧ 1 < c)) : takeN l = (v128 (l.take (k + 1)), (k : Int) + 1, 0) := by
  unfold takeN
  rw [find10_some h hk hx hc]
  show (if _ then _ else _) = _
  have hg : l.getD k 0 = c := by simp [List.getD, hx]
  rw [if_neg]
  rintro (⟨h1, h2⟩ | ⟨h1, h2⟩)
  · rw [hg] at h2; exact hb (.inl ⟨h1, h2⟩)
  · rw [← h1, hg] at h2; exact hb (.inr ⟨h1, h2⟩)
theorem all_snoc {l : List Int} {k : Nat} {c : Int} (h : ∀ x ∈ l.take k, 128 ≤ x) (hx : l[k]? = some c) (hc : 128 ≤ c) : ∀ x ∈ l.take (k + 1), 128 ≤ x := by
  rw [take_snoc hx]
  intro x hx
  rcases List.mem_append.1 hx with h1 | h1
  · exact h x h1
  · rw [List.mem_singleton.1 h1]; exact hc
set_option maxRecDepth 100000 in
set_option maxHeartbeats 1000000 in
theorem takeNumber_any (v : Value) (l : List Int) (w : World) (h : IsB w v l) :
    Calls Try.prog 47 #[v] w fun e w' => e = .returned (.tuple #[.int .u64 (takeN l).1, .int .i64 (takeN l).2.1, .int .i64 (takeN l).2.2]) ∧ w = w' := by
  have hm := h.max
  obtain ⟨ao, cap, rfl, hnc, _, _⟩ := h.form
  have HB := Lib.hid h
  clear h
  go_enter Try.func47, Try.ntmps47
  go_wp2_with fail
  go_loop [5, 8] (fun y i => ∃ (k : Nat) (n : Int), k ≤ 10 ∧ k ≤ l.length ∧ i = .int .i64 k ∧ y = .int .u64 n ∧ Hid (0 ≤ n ∧ n ≤ 18446744073709551615) ∧ Hid (k ≤ 9 → n = v128 (l.take k)) ∧ Hid (∀ x ∈ l.take k, 128 ≤ x)) (fun _ i => 10 - (intOf i).toNat)
  case atStart => exact ⟨0, 0, by omega, by omega, rfl, rfl, by constructor <;> decide, fun _ => rfl, fun x hx => by simp at hx⟩
  case round =>
    obtain ⟨k, n, hk, hkl, rfl, rfl, hn, hv, hall⟩ := hrel
    by_cases hlt : k < 10
    · by_cases he : k = l.length
      · have hb1 : (k == l.length) = true := by rw [beq_iff_eq]; exact he
        have hb2 : ((k : Int) == (l.length : Int)) = true := by rw [beq_iff_eq]; omega
        have HT := Lib.hid (take_short hall.out hlt he)
        clear he
        go_wp2_with fail
        go_ret3
        exact ⟨ret3 HT.out, rfl⟩
      · have hb1 : (k == l.length) = false := beq_eq_false_iff_ne.2 he
        have hb2 : ((k : Int) == (l.length : Int)) = false := beq_eq_false_iff_ne.2 (by omega)
        have hkl2 : k < l.length := by omega
        obtain ⟨b, o, c, rfl, hbb, hx, hc, hc1, hc2⟩ := HB.out.at_ (k := k) (by omega)
        clear he
        have hlen : (l.take k).length = k := by rw [List.length_take]; omega
        have hor : k ≤ 9 ∧ (k ≤ 8 ∨ c ≤ 1) → bits .or .u64 n (IntKind.u64.wrap (IntKind.u64.wrap (bits .and .u8 c 127) * 2 ^ (7 * k))) = v128 (l.take (k + 1)) := by
          rintro ⟨h1, h2⟩
          have hv' := hv.out h1
          have hr := v128_rng (l.take k)
          rw [hlen] at hr
          rw [take_snoc hx.out, v128_snoc, hlen, ← hv']
          rw [← hv'] at hr
          refine step_or hr ⟨hc1, hc2⟩ ?_
          rcases h2 with h2 | h2
          · have p1 : (128 : Int) ^ (k + 1) ≤ 128 ^ 9 := by exact_mod_cast Nat.pow_le_pow_right (n := 128) (by decide) (show k + 1 ≤ 9 by omega)
            have p2 : (128 : Int) ^ 9 = 9223372036854775808 := by decide
            rw [Int.pow_succ] at p1
            have p3 : (128 : Int) ^ k * (c % 128) ≤ 128 ^ k * 127 := Int.mul_le_mul_of_nonneg_left (by omega) (by omega)
            omega
          · have p1 : (128 : Int) ^ k ≤ 128 ^ 9 := by exact_mod_cast Nat.pow_le_pow_right (n := 128) (by decide) (show k ≤ 9 by omega)
            have p2 : (128 : Int) ^ 9 = 9223372036854775808 := by decide
            have p3 : (128 : Int) ^ k * (c % 128) ≤ 128 ^ k * 1 := Int.mul_le_mul_of_nonneg_left (by omega) (by omega)
            omega
        have HOR := Lib.hid hor
        clear hor hlen
        by_cases hhi : 127 < c
        · go_wp2_with fail
          go_round
          case rel => exact ⟨k + 1, _, by omega, by omega, by go_num, rfl, bits_u64_rng _ _ _, fun h9 => HOR.out ⟨by omega, .inl (by omega)⟩, all_snoc hall.out hx.out (by omega)⟩
          case measure => simp [intOf]; omega
        · by_cases hz : 0 < k ∧ c = 0
          · obtain ⟨hz1, rfl⟩ := hz
            have HT := Lib.hid (take_form hall.out hlt hx.out (by omega) (.inl ⟨hz1, rfl⟩))
            go_wp2_with fail
            go_ret3
            exact ⟨ret3 HT.out, rfl⟩
          · have hz' : (decide (0 < (k : Int)) && (c == 0)) = false := by
              rw [Bool.and_eq_false_iff, decide_eq_false_iff_not, beq_eq_false_iff_ne]; omega
            by_cases h9 : k = 9 ∧ 1 < c
            · obtain ⟨rfl, h91⟩ := h9
              have HT := Lib.hid (take_form hall.out hlt hx.out (by omega) (.inr ⟨rfl, h91⟩))
              have hc0 : (c == 0) = false := beq_eq_false_iff_ne.2 (by omega)
              clear hz hz'
              go_wp2_with fail
              go_ret3
              exact ⟨ret3 HT.out, rfl⟩
            · have HT := Lib.hid (take_ok hall.out hlt hx.out (by omega) (by omega))
              have HOR2 := Lib.hid (HOR.out ⟨by omega, by omega⟩)
              have q1 : decide (127 < c) = false := by simp; omega
              by_cases k0 : k = 0
              · subst k0
                clear hz hz' h9 hhi
                simp only [Nat.add_zero] at hc
                have h20 := HOR2.out
                rw [show (2 : Int) ^ (7 * 0) = 1 from rfl, Int.mul_one] at h20
                have H20 := Lib.hid h20
                clear h20
                go_wp2_with fail
                go_ret3
                exact ⟨(congrArg (fun z => Ending.returned (.tuple #[.int .u64 z, .int .i64 1, .int .i64 0])) H20.out).trans (ret3 HT.out), rfl⟩
              · have hc0 : (c == 0) = false := beq_eq_false_iff_ne.2 (by omega)
                by_cases k9 : k = 9
                · subst k9
                  have q2 : decide (1 < c) = false := by simp; omega
                  clear hz hz' h9 hhi
                  have h20 := HOR2.out
                  rw [show (2 : Int) ^ (7 * 9) = 9223372036854775808 from by decide] at h20
                  have H20 := Lib.hid h20
                  clear h20
                  go_wp2_with fail
                  go_ret3
                  exact ⟨(congrArg (fun z => Ending.returned (.tuple #[.int .u64 z, .int .i64 10, .int .i64 0])) H20.out).trans (ret3 HT.out), rfl⟩
                · have q2 : ((k : Int) == 9) = false := beq_eq_false_iff_ne.2 (by omega)
                  have q3 : (k == 9) = false := beq_eq_false_iff_ne.2 k9
                  clear hz hz' h9 hhi
                  go_wp2_with fail
                  go_ret3
                  exact ⟨by rw [HOR2.out]; exact ret3 HT.out, rfl⟩
    · have hk10 : k = 10 := by omega
      subst hk10
      have HT := Lib.hid (take_long hall.out hkl)
      go_wp2_with fail
      go_ret3
      exact ⟨ret3 HT.out, rfl⟩
end Codec
end Go.Proofs.Ytlfelpbcnpjneaa
