/- codec: a key's number. -/
import Derived.Test.YtfkemeamimcnjaaDoorBytesFn
import Derived.Test.YtfkemeamimcnjaaDoorKit
set_option linter.unusedVariables false
set_option linter.unusedSimpArgs false
namespace Go.Proofs.YtfkemeamimcnjaaDoor
open Go.RowKit
namespace Codec
theorem xor_top {a i : Nat} (h : a < 2 ^ i) : a ^^^ 2 ^ i = a + 2 ^ i := by
  have e : a + 2 ^ i = a ||| 2 ^ i := by
    have := Nat.two_pow_add_eq_or_of_lt h 1
    rw [Nat.mul_one] at this
    rw [Nat.add_comm, this, Nat.or_comm]
  rw [e]
  refine Nat.eq_of_testBit_eq fun j => ?_
  rw [Nat.testBit_xor, Nat.testBit_or, Nat.testBit_two_pow]
  by_cases hj : i = j
  · subst hj
    rw [Nat.testBit_lt_two_pow h]; simp
  · simp [hj]
/-- a number's place among the numbers without sign -/
theorem flip_i64 (n : Int) (h : -9223372036854775808 ≤ n ∧ n ≤ 9223372036854775807) : bits .xor .u64 (n % 18446744073709551616) 9223372036854775808 = n + 9223372036854775808 := by
  have hB : IntKind.u64.bits = 64 := rfl
  by_cases h0 : 0 ≤ n
  · obtain ⟨N, rfl⟩ := Int.eq_ofNat_of_zero_le h0
    rw [Int.emod_eq_of_lt (by omega) (by omega)]
    have e := bits_xor_nat (k := .u64) rfl N (2 ^ 63) (by rw [hB]; omega) (by decide)
    rw [xor_top (by omega)] at e
    have e2 : ((2 ^ 63 : Nat) : Int) = 9223372036854775808 := by decide
    rw [e2] at e
    rw [e]; omega
  · obtain ⟨M, hM⟩ : ∃ M : Nat, (M : Int) = n + 9223372036854775808 := ⟨(n + 9223372036854775808).toNat, by omega⟩
    have e1 : n % 18446744073709551616 = ((M + 2 ^ 63 : Nat) : Int) := by
      omega
    have e := bits_xor_nat (k := .u64) rfl (M + 2 ^ 63) (2 ^ 63) (by rw [hB]; omega) (by decide)
    have e3 : (M + 2 ^ 63) ^^^ 2 ^ 63 = M := by
      rw [← xor_top (show M < 2 ^ 63 by omega), Nat.xor_assoc, Nat.xor_self, Nat.xor_zero]
    rw [e3] at e
    have e2 : ((2 ^ 63 : Nat) : Int) = 9223372036854775808 := by decide
    rw [e2] at e
    rw [e1, e, hM]
theorem flip_wrap (n : Int) (h : -9223372036854775808 ≤ n ∧ n ≤ 9223372036854775807) : bits .xor .u64 (IntKind.u64.wrap n) 9223372036854775808 = n + 9223372036854775808 := by
  have e : IntKind.u64.wrap n = n % 18446744073709551616 := by simp [IntKind.wrap, IntKind.bits, IntKind.signed]
  rw [e]; exact flip_i64 n h
def bytes8 (u : Int) : List Int := [u / 72057594037927936, u / 281474976710656 % 256, u / 1099511627776 % 256, u / 4294967296 % 256, u / 16777216 % 256, u / 65536 % 256, u / 256 % 256, u % 256]
def keyL (n : Int) : List Int := bytes8 (n + 9223372036854775808)
theorem keyL_rng {n : Int} (h : -9223372036854775808 ≤ n ∧ n ≤ 9223372036854775807) : Rng (keyL n) := by
  intro x hx
  simp [keyL, bytes8] at hx
  omega
def KeyPost (n : Int) (w : World) (e : Ending) (w' : World) : Prop := ∃ v, e = .returned v ∧ w'.ownsRow w.heap.size 5 1 v 8 ((keyL n).map (Value.int .u8)) ∧ Below w.heap.size w w'
set_option maxRecDepth 100000 in
set_option maxHeartbeats 4000000 in
theorem keyInt_any (n : Int) (w : World) (h : -9223372036854775808 ≤ n ∧ n ≤ 9223372036854775807) :
    Calls Tryd.prog 71 #[.int .i64 n] w (KeyPost n w) := by
  have HF := Lib.hid (flip_wrap n h)
  obtain ⟨u, hu⟩ : ∃ u, n + 9223372036854775808 = u := ⟨_, rfl⟩
  have hub : 0 ≤ u ∧ u ≤ 18446744073709551615 := by omega
  rw [hu] at HF
  have HU := Lib.hid hu
  have HR := Lib.hid (keyL_rng h)
  have hmk : ∀ w, (Instr.makeSlice 29 (.int .i64 8) (.int .i64 8)).run Tryd.prog w = .ok (.slice (some ⟨w.heap.size, 0, none⟩) 8 8) (w.alloc (.cells #[.int .u8 0, .int .u8 0, .int .u8 0, .int .u8 0, .int .u8 0, .int .u8 0, .int .u8 0, .int .u8 0] 5)) := fun _ => by kernel_rfl
  clear h hu
  go_enter Tryd.func71, Tryd.ntmps71
  go_wp2_with fail
  rw [HF.out]
  refine wp_loop_rounds 9 ?_
  rw [rounds_succ]; go_wp2_with fail
  rw [rounds_succ]; go_wp2_with fail
  rw [rounds_succ]; go_wp2_with fail
  rw [rounds_succ]; go_wp2_with fail
  rw [rounds_succ]; go_wp2_with fail
  rw [rounds_succ]; go_wp2_with fail
  rw [rounds_succ]; go_wp2_with fail
  rw [rounds_succ]; go_wp2_with fail
  rw [rounds_succ]; go_wp2_with fail
  go_ret
  refine ⟨_, rfl, ?_, (by repeat' (first | (with_reducible exact Below.refl _ _) | (with_reducible assumption) | (with_reducible refine Below.drew ?_) | (with_reducible refine below_drewN ?_ _) | (with_reducible refine bel_alloc ?_ _) | (with_reducible refine Below.setCell ?_ ?_ _) | (with_reducible refine bel_call ?_ (by assumption)) | (simp <;> omega)))⟩
  have e : keyL n = bytes8 u := by unfold keyL; rw [HU.out]
  rw [e]
  exact World.ownsRow_lit w _ 8 (Nat.le_refl _) (by simp [maxLen]) (by simp)
end Codec
end Go.Proofs.YtfkemeamimcnjaaDoor
