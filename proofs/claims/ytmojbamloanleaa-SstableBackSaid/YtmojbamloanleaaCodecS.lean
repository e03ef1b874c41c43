/- codec: the check sum of both. -/
import Derived.Test.YtmojbamloanleaaBytesFn
import Derived.Test.YtmojbamloanleaaKit
set_option linter.unusedVariables false
set_option linter.unusedSimpArgs false
namespace Go.Proofs.Ytmojbamloanleaa
open Go.RowKit
namespace Codec
def U32 (x : Int) : Prop := 0 ≤ x ∧ x ≤ 4294967295
def stepBit (c : Int) : Int := if c % 2 = 1 then bits .xor .u32 (c / 2) 3988292384 else c / 2
def steps : Nat → Int → Int
  | 0, c => c
  | k + 1, c => stepBit (steps k c)
def regF (c : Int) (l : List Int) : Int := l.foldl (fun c x => steps 8 (bits .xor .u32 c x)) c
theorem bits_u32_rng (op : BinOp) (x y : Int) : U32 (bits op .u32 x y) := by
  unfold bits U32
  simp [IntKind.wrap, IntKind.bits, IntKind.signed]; omega
theorem stepBit_rng {c : Int} (h : U32 c) : U32 (stepBit c) := by
  unfold stepBit
  split
  · exact bits_u32_rng _ _ _
  · unfold U32 at *; omega
theorem steps_rng {c : Int} (h : U32 c) : ∀ k, U32 (steps k c)
  | 0 => h
  | k + 1 => stepBit_rng (steps_rng h k)
theorem regF_snoc {l : List Int} {k : Nat} {x c : Int} (h : l[k]? = some x) : regF c (l.take (k + 1)) = steps 8 (bits .xor .u32 (regF c (l.take k)) x) := by
  rw [take_snoc h]; unfold regF; rw [List.foldl_append]; rfl
theorem regF_rng {c : Int} (h : U32 c) (l : List Int) : U32 (regF c l) := by
  unfold regF
  rcases List.eq_nil_or_concat l with rfl | ⟨m, x, rfl⟩
  · exact h
  · rw [List.concat_eq_append, List.foldl_append]; exact steps_rng (bits_u32_rng _ _ _) 8
theorem and_one (c : Int) (h : U32 c) : bits .and .u32 c 1 = c % 2 := by
  obtain ⟨C, rfl⟩ := Int.eq_ofNat_of_zero_le h.1
  have hC : C < 2 ^ IntKind.u32.bits := by
    have : IntKind.u32.bits = 32 := rfl
    rw [this]; unfold U32 at h; omega
  have e := bits_and_mod (k := .u32) rfl C 1 hC (by decide)
  have e' : bits .and .u32 (C : Int) 1 = ((C % 2 : Nat) : Int) := e
  rw [e']; omega
theorem xor_zero32 {x : Int} (h : U32 x) : bits .xor .u32 x 0 = x := by
  obtain ⟨X, rfl⟩ := Int.eq_ofNat_of_zero_le h.1
  have hX : X < 2 ^ IntKind.u32.bits := by
    have : IntKind.u32.bits = 32 := rfl
    rw [this]; unfold U32 at h; omega
  have e := bits_xor_nat (k := .u32) rfl X 0 hX (by decide)
  have e' : bits .xor .u32 (X : Int) 0 = ((X ^^^ 0 : Nat) : Int) := e
  rw [e', Nat.xor_zero]
theorem step_prog {n : Int} (h : U32 n) : bits .xor .u32 (n / 2) (bits .and .u32 3988292384 (-bits .and .u32 n 1 % 4294967296)) = stepBit n := by
  rw [and_one n h]
  unfold stepBit
  have hd : U32 (n / 2) := by unfold U32 at *; omega
  rcases Int.emod_two_eq n with e | e
  · rw [e, if_neg (by decide), show bits .and .u32 3988292384 (-0 % 4294967296) = 0 from by decide]
    exact xor_zero32 hd
  · rw [e, if_pos rfl, show bits .and .u32 3988292384 (-1 % 4294967296) = 3988292384 from by decide]
set_option maxRecDepth 100000 in
set_option maxHeartbeats 1000000 in
theorem register_any (v : Value) (l : List Int) (c : Int) (w : World) (h : IsB w v l) (hc : U32 c) :
    Calls Try.prog 90 #[.int .u32 c, v] w fun e w' => e = .returned (.int .u32 (regF c l)) ∧ w = w' := by
  have hm := h.max
  obtain ⟨ao, cap, rfl, hnc, _, _⟩ := h.form
  have HB := Lib.hid h
  clear h
  go_enter Try.func90, Try.ntmps90
  go_wp2_with fail
  go_loop [0, 10] (fun y i => ∃ (k : Nat) (n : Int), k ≤ l.length ∧ i = .int .i64 k ∧ y = .int .u32 n ∧ Hid (U32 n) ∧ Hid (n = regF c (l.take k))) (fun _ i => l.length - (intOf i).toNat)
  case atStart => exact ⟨0, c, by omega, rfl, rfl, hc, rfl⟩
  case round =>
    obtain ⟨k, n, hk, rfl, rfl, hn, hv⟩ := hrel
    by_cases hlt : k < l.length
    · obtain ⟨b, o, x, rfl, hbb, hx, hxc, hx1, hx2⟩ := HB.out.at_ (k := k) hlt
      go_wp2_with fail
      go_loop [0, 18] (fun y i => ∃ (j : Nat) (n' : Int), j ≤ 8 ∧ i = .int .i64 j ∧ y = .int .u32 n' ∧ (0 ≤ n' ∧ n' ≤ 4294967295) ∧ Hid (n' = steps j (bits .xor .u32 n x))) (fun _ i => 8 - (intOf i).toNat)
      case atStart => exact ⟨0, _, by omega, rfl, rfl, bits_u32_rng _ _ _, rfl⟩
      case round =>
        obtain ⟨j, n', hj, rfl, rfl, hn', hv'⟩ := hrel
        by_cases hlt8 : j < 8
        · have hs := step_prog (n := n') hn'
          have HS := Lib.hid hs
          clear hs
          go_wp2_with fail
          go_round
          case rel => exact ⟨j + 1, _, by omega, by go_num, rfl, by rw [HS.out]; exact stepBit_rng hn', by rw [HS.out, hv'.out]; rfl⟩
          case measure => simp [intOf]; omega
        · have hj8 : j = 8 := by omega
          subst hj8
          go_wp2_with fail
          go_round
          case rel => exact ⟨k + 1, _, by omega, by go_num, rfl, hn', by rw [regF_snoc hx.out, hv'.out, hv.out]; rfl⟩
          case measure => simp [intOf]; omega
    · have hkp : k = l.length := by omega
      subst hkp
      go_wp2_with fail
      go_ret
      exact ⟨by rw [hv.out, List.take_length]; rfl, rfl⟩
set_option maxRecDepth 100000 in
set_option maxHeartbeats 1000000 in
theorem rsum_any (v : Value) (l : List Int) (c : Int) (w : World) (h : IsB w v l) (hc : U32 c) :
    Calls Try.prog 86 #[.int .u32 c, v] w fun e w' => e = .returned (.int .u32 (regF c l)) ∧ w = w' := by
  have hm := h.max
  obtain ⟨ao, cap, rfl, hnc, _, _⟩ := h.form
  have HB := Lib.hid h
  clear h
  go_enter Try.func86, Try.ntmps86
  go_wp2_with fail
  go_loop [0, 5] (fun y i => ∃ (k : Nat) (n : Int), k ≤ l.length ∧ i = .int .i64 k ∧ y = .int .u32 n ∧ Hid (U32 n) ∧ Hid (n = regF c (l.take k))) (fun _ i => l.length - (intOf i).toNat)
  case atStart => exact ⟨0, c, by omega, rfl, rfl, hc, rfl⟩
  case round =>
    obtain ⟨k, n, hk, rfl, rfl, hn, hv⟩ := hrel
    by_cases hlt : k < l.length
    · obtain ⟨b, o, x, rfl, hbb, hx, hxc, hx1, hx2⟩ := HB.out.at_ (k := k) hlt
      go_wp2_with fail
      go_loop [0, 6] (fun y i => ∃ (j : Nat) (n' : Int), j ≤ 8 ∧ i = .int .i64 j ∧ y = .int .u32 n' ∧ (0 ≤ n' ∧ n' ≤ 4294967295) ∧ Hid (n' = steps j (bits .xor .u32 n x))) (fun _ i => 8 - (intOf i).toNat)
      case atStart => exact ⟨0, _, by omega, rfl, rfl, bits_u32_rng _ _ _, rfl⟩
      case round =>
        obtain ⟨j, n', hj, rfl, rfl, hn', hv'⟩ := hrel
        by_cases hlt8 : j < 8
        · rcases Int.emod_two_eq n' with e | e
          · have hs : stepBit n' = n' / 2 := by unfold stepBit; rw [if_neg (by omega)]
            have HS := Lib.hid hs
            have e1 : (n' % 2 == 1) = false := beq_eq_false_iff_ne.2 (by omega)
            clear hs e
            go_wp2_with fail
            go_round
            case rel => exact ⟨j + 1, _, by omega, by go_num, rfl, by omega, by rw [← HS.out, hv'.out]; rfl⟩
            case measure => simp [intOf]; omega
          · have hs : stepBit n' = bits .xor .u32 (n' / 2) 3988292384 := by unfold stepBit; rw [if_pos e]
            have HS := Lib.hid hs
            have e1 : (n' % 2 == 1) = true := by rw [beq_iff_eq]; exact e
            clear hs e
            go_wp2_with fail
            go_round
            case rel => exact ⟨j + 1, _, by omega, by go_num, rfl, bits_u32_rng _ _ _, by rw [← HS.out, hv'.out]; rfl⟩
            case measure => simp [intOf]; omega
        · have hj8 : j = 8 := by omega
          subst hj8
          go_wp2_with fail
          go_round
          case rel => exact ⟨k + 1, _, by omega, by go_num, rfl, hn', by rw [regF_snoc hx.out, hv'.out, hv.out]; rfl⟩
          case measure => simp [intOf]; omega
    · have hkp : k = l.length := by omega
      subst hkp
      go_wp2_with fail
      go_ret
      exact ⟨by rw [hv.out, List.take_length]; rfl, rfl⟩
theorem xor_comm32 (x y : Int) : bits .xor .u32 x y = bits .xor .u32 y x := by unfold bits; simp only [BitVec.xor_comm]
/-- the sum -/
def sumF (l : List Int) : Int := bits .xor .u32 (regF 4294967295 l) 4294967295
set_option maxHeartbeats 400000 in
theorem rSum_any (v : Value) (l : List Int) (w : World) (h : IsB w v l) :
    Calls Try.prog 61 #[v] w fun e w' => e = .returned (.int .u32 (sumF l)) ∧ w = w' := by
  have HC := Lib.hid (rsum_any v l 4294967295 w h (by unfold U32; decide))
  clear h
  go_enter Try.func61, Try.ntmps61
  go_wp2_with fail
  refine HC.out.mono ?_
  rintro e w1 ⟨rfl, rfl⟩
  go_wp2_with fail
  go_ret
  exact ⟨rfl, rfl⟩
set_option maxHeartbeats 400000 in
theorem sum_any (v : Value) (l : List Int) (w : World) (h : IsB w v l) :
    Calls Try.prog 70 #[v] w fun e w' => e = .returned (.int .u32 (sumF l)) ∧ w = w' := by
  have HC := Lib.hid (register_any v l 4294967295 w h (by unfold U32; decide))
  clear h
  go_enter Try.func70, Try.ntmps70
  go_wp2_with fail
  refine HC.out.mono ?_
  rintro e w1 ⟨rfl, rfl⟩
  go_wp2_with fail
  go_ret
  refine ⟨?_, rfl⟩
  show Ending.returned (.int .u32 (bits .xor .u32 4294967295 (regF 4294967295 l))) = _
  rw [xor_comm32]
  rfl
end Codec
end Go.Proofs.Ytmojbamloanleaa
