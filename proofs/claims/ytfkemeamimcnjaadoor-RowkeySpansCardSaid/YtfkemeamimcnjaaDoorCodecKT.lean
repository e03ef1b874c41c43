/- codec: TakeKeyInt of both. -/
import Derived.Test.YtfkemeamimcnjaaDoorCodecK
import Derived.Test.YtfkemeamimcnjaaDoorCodecRT
set_option linter.unusedVariables false
set_option linter.unusedSimpArgs false
namespace Go.Proofs.YtfkemeamimcnjaaDoor
open Go.RowKit
namespace Codec
def v256 (l : List Int) : Int := l.foldl (fun u c => 256 * u + c) 0
theorem v256_snoc {l : List Int} {k : Nat} {x : Int} (h : l[k]? = some x) : v256 (l.take (k + 1)) = 256 * v256 (l.take k) + x := by
  unfold v256; rw [take_snoc h, List.foldl_append]; rfl
theorem v256_rng {l : List Int} (h : Rng l) : ∀ k, k ≤ l.length → 0 ≤ v256 (l.take k) ∧ v256 (l.take k) < 256 ^ k
  | 0, _ => ⟨(by show (0 : Int) ≤ 0; omega), (by show (0 : Int) < 1; omega)⟩
  | k + 1, hk => by
    have ih := v256_rng h k (by omega)
    have hx : l[k]? = some (l[k]'(by omega)) := List.getElem?_eq_getElem (by omega)
    have hc := h _ (List.getElem_mem (show k < l.length by omega))
    rw [v256_snoc hx, Int.pow_succ]
    omega
theorem v256_max {l : List Int} (h : Rng l) {k : Nat} (hk : k ≤ l.length) (h7 : k ≤ 7) : 0 ≤ v256 (l.take k) ∧ v256 (l.take k) ≤ 72057594037927935 := by
  have h1 := v256_rng h k hk
  have p1 : (256 : Int) ^ k ≤ 256 ^ 7 := by
    have h2 : ((256 ^ k : Nat) : Int) ≤ ((256 ^ 7 : Nat) : Int) := Int.ofNat_le.2 (Nat.pow_le_pow_right (n := 256) (by decide) h7)
    rw [Int.natCast_pow, Int.natCast_pow] at h2
    exact h2
  have p2 : (256 : Int) ^ 7 = 72057594037927936 := by decide
  omega
theorem v256_max8 {l : List Int} (h : Rng l) (hk : 8 ≤ l.length) : 0 ≤ v256 (l.take 8) ∧ v256 (l.take 8) ≤ 18446744073709551615 := by
  have h1 := v256_rng h 8 hk
  have p2 : (256 : Int) ^ 8 = 18446744073709551616 := by decide
  omega
theorem or256 {u c : Int} (hu : 0 ≤ u ∧ u ≤ 72057594037927935) (hc : 0 ≤ c ∧ c ≤ 255) : bits .or .u64 (u * 256) c = 256 * u + c := by
  obtain ⟨U, rfl⟩ := Int.eq_ofNat_of_zero_le hu.1
  obtain ⟨C, rfl⟩ := Int.eq_ofNat_of_zero_le hc.1
  have hB : IntKind.u64.bits = 64 := rfl
  have e := bits_or_add (k := .u64) rfl C U 8 (by omega) (by rw [hB]; omega)
  have e1 : ((2 ^ 8 * U : Nat) : Int) = (U : Int) * 256 := by omega
  have e2 : ((C + 2 ^ 8 * U : Nat) : Int) = 256 * (U : Int) + C := by omega
  rw [e1, e2] at e
  rw [← e]
  unfold bits
  simp only [BitVec.or_comm]
theorem flip_back {u : Int} (h : 0 ≤ u ∧ u ≤ 18446744073709551615) : wrap64 (bits .xor .u64 u 9223372036854775808) = u - 9223372036854775808 := by
  have h1 := flip_i64 (u - 9223372036854775808) (by omega)
  have e : (u - 9223372036854775808) % 18446744073709551616 = bits .xor .u64 u 9223372036854775808 := by
    obtain ⟨U, rfl⟩ := Int.eq_ofNat_of_zero_le h.1
    have hB : IntKind.u64.bits = 64 := rfl
    have e0 := bits_xor_nat (k := .u64) rfl U (2 ^ 63) (by rw [hB]; omega) (by decide)
    have e2 : ((2 ^ 63 : Nat) : Int) = 9223372036854775808 := by decide
    rw [e2] at e0
    rw [e0]
    by_cases hlt : U < 2 ^ 63
    · rw [xor_top hlt]; omega
    · have e3 : U ^^^ 2 ^ 63 = U - 2 ^ 63 := by
        have : U = (U - 2 ^ 63) ^^^ 2 ^ 63 := by rw [xor_top (show U - 2 ^ 63 < 2 ^ 63 by omega)]; omega
        rw [this, Nat.xor_assoc, Nat.xor_self, Nat.xor_zero]
        omega
      rw [e3]; omega
  rw [← e]
  unfold wrap64
  omega
def takeKeyIntF (l : List Int) : Int × Int × Int :=
  if l.length < 8 then (0, 0, 10) else (wrap64 (bits .xor .u64 (v256 (l.take 8)) 9223372036854775808), 8, 0)
def TKPost (l : List Int) (w : World) (e : Ending) (w' : World) : Prop := e = .returned (.tuple #[.int .i64 (takeKeyIntF l).1, .int .i64 (takeKeyIntF l).2.1, .int .i64 (takeKeyIntF l).2.2]) ∧ Below w.heap.size w w'
theorem ret_ki {t : Int × Int × Int} {a b c : Int} (h : t = (a, b, c)) : Ending.returned (.tuple #[.int .i64 a, .int .i64 b, .int .i64 c]) = .returned (.tuple #[.int .i64 t.1, .int .i64 t.2.1, .int .i64 t.2.2]) := by subst h; rfl
set_option maxHeartbeats 1000000 in
theorem takeKeyInt_any (v : Value) (l : List Int) (w : World) (h : IsB w v l) : Calls Tryd.prog 76 #[v] w (TKPost l w) := by
  have hm := h.max
  obtain ⟨ao, cap, rfl, hnc, hcap, -⟩ := h.form
  have HB := Lib.hid h
  have HR := Lib.hid h.rng
  have hF : takeKeyIntF l = if l.length < 8 then (0, 0, 10) else (wrap64 (bits .xor .u64 (v256 (l.take 8)) 9223372036854775808), 8, 0) := rfl
  clear h
  by_cases h8 : l.length < 8
  · rw [if_pos h8] at hF
    have HF := Lib.hid hF
    clear hF
    go_enter Tryd.func76, Tryd.ntmps76
    go_wp2_with fail
    go_ret3
    exact ⟨ret_ki HF.out, Below.refl _ _⟩
  · rw [if_neg h8] at hF
    have HF := Lib.hid hF
    clear hF
    go_enter Tryd.func76, Tryd.ntmps76
    go_wp2_with fail
    go_loop [5, 14] (fun y i => ∃ (k : Nat) (n : Int), k ≤ 8 ∧ i = .int .i64 k ∧ y = .int .u64 n ∧ Hid (n = v256 (l.take k))) (fun _ i => 8 - (intOf i).toNat)
    case atStart => exact ⟨0, 0, by omega, rfl, rfl, rfl⟩
    case round =>
      obtain ⟨k, n, hk, rfl, rfl, hv⟩ := hrel
      by_cases hlt : k < 8
      · obtain ⟨b, o, c, rfl, hbb, hx, hc, hc1, hc2⟩ := HB.out.at_ (k := k) (by omega)
        have hn := v256_max HR.out (k := k) (by omega) (by omega)
        rw [← hv.out] at hn
        obtain ⟨hn1, hn2⟩ := hn
        have HOR := Lib.hid (or256 ⟨hn1, hn2⟩ ⟨hc1, hc2⟩)
        go_wp2_with fail
        go_round
        case rel => exact ⟨k + 1, _, by omega, by go_num, rfl, by rw [HOR.out, v256_snoc hx.out, hv.out]; rfl⟩
        case measure => simp [intOf]; omega
      · have hk8 : k = 8 := by omega
        subst hk8
        go_wp2_with fail
        go_ret3
        exact ⟨ret_ki (by rw [HF.out, hv.out]), Below.refl _ _⟩
set_option maxHeartbeats 1000000 in
theorem rTakeKeyInt_any (v : Value) (l : List Int) (w : World) (h : IsB w v l) : Calls Tryd.prog 91 #[v] w (TKPost l w) := by
  have hm := h.max
  obtain ⟨ao, cap, rfl, hnc, hcap, -⟩ := h.form
  have HB := Lib.hid h
  have HR := Lib.hid h.rng
  have hF : takeKeyIntF l = if l.length < 8 then (0, 0, 10) else (wrap64 (bits .xor .u64 (v256 (l.take 8)) 9223372036854775808), 8, 0) := rfl
  clear h
  by_cases h8 : l.length < 8
  · rw [if_pos h8] at hF
    have HF := Lib.hid hF
    clear hF
    go_enter Tryd.func91, Tryd.ntmps91
    go_wp2_with fail
    go_ret3
    exact ⟨ret_ki HF.out, Below.refl _ _⟩
  · rw [if_neg h8] at hF
    have HF := Lib.hid hF
    clear hF
    go_enter Tryd.func91, Tryd.ntmps91
    go_wp2_with fail
    go_loop [5, 6] (fun y i => ∃ (k : Nat) (n : Int), k ≤ 8 ∧ i = .int .i64 k ∧ y = .int .u64 n ∧ Hid (n = v256 (l.take k))) (fun _ i => 8 - (intOf i).toNat)
    case atStart => exact ⟨0, 0, by omega, rfl, rfl, rfl⟩
    case round =>
      obtain ⟨k, n, hk, rfl, rfl, hv⟩ := hrel
      by_cases hlt : k < 8
      · obtain ⟨b, o, c, rfl, hbb, hx, hc, hc1, hc2⟩ := HB.out.at_ (k := k) (by omega)
        have hn := v256_max HR.out (k := k) (by omega) (by omega)
        rw [← hv.out] at hn
        obtain ⟨hn1, hn2⟩ := hn
        go_wp2_with fail
        go_round
        case rel => exact ⟨k + 1, _, by omega, by go_num, rfl, by rw [v256_snoc hx.out, hv.out]; rfl⟩
        case measure => simp [intOf]; omega
      · have hk8 : k = 8 := by omega
        subst hk8
        go_wp2_with fail
        go_ret3
        exact ⟨ret_ki (by rw [HF.out, hv.out]), Below.refl _ _⟩
end Codec
end Go.Proofs.YtfkemeamimcnjaaDoor
