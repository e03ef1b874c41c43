/- Bits of natural numbers. No program in sight. -/
import Derived.Test.YtlolgiphppbcmaaDoorBase
namespace Go.Proofs.YtlolgiphppbcmaaDoor
open Go.RowKit
theorem ofInt_nat (n a : Nat) (h : a < 2 ^ n) : (BitVec.ofInt n (a : Int)).toNat = a := by
  simp [Nat.mod_eq_of_lt h]
theorem wrap_nat {k : IntKind} (hk : k.signed = false) (a : Nat) (h : a < 2 ^ k.bits) : k.wrap (a : Int) = a := by
  unfold IntKind.wrap
  simp [hk]
  exact Int.emod_eq_of_lt (by omega) (by exact_mod_cast h)
theorem bits_or_nat {k : IntKind} (hk : k.signed = false) (a b : Nat) (ha : a < 2 ^ k.bits) (hb : b < 2 ^ k.bits) : bits .or k (a : Int) (b : Int) = ((a ||| b : Nat) : Int) := by
  unfold bits
  simp only [BitVec.toNat_or, ofInt_nat _ _ ha, ofInt_nat _ _ hb]
  exact wrap_nat hk _ (Nat.or_lt_two_pow ha hb)
theorem bits_and_nat {k : IntKind} (hk : k.signed = false) (a b : Nat) (ha : a < 2 ^ k.bits) (hb : b < 2 ^ k.bits) : bits .and k (a : Int) (b : Int) = ((a &&& b : Nat) : Int) := by
  unfold bits
  simp only [BitVec.toNat_and, ofInt_nat _ _ ha, ofInt_nat _ _ hb]
  exact wrap_nat hk _ (Nat.and_lt_two_pow _ hb)
theorem bits_xor_nat {k : IntKind} (hk : k.signed = false) (a b : Nat) (ha : a < 2 ^ k.bits) (hb : b < 2 ^ k.bits) : bits .xor k (a : Int) (b : Int) = ((a ^^^ b : Nat) : Int) := by
  unfold bits
  simp only [BitVec.toNat_xor, ofInt_nat _ _ ha, ofInt_nat _ _ hb]
  exact wrap_nat hk _ (Nat.xor_lt_two_pow ha hb)
/-- a low part and a high part, joined by 'or' -/
theorem bits_or_add {k : IntKind} (hk : k.signed = false) (a b i : Nat) (ha : a < 2 ^ i) (hs : a + 2 ^ i * b < 2 ^ k.bits) : bits .or k (a : Int) ((2 ^ i * b : Nat) : Int) = ((a + 2 ^ i * b : Nat) : Int) := by
  rw [bits_or_nat hk a (2 ^ i * b) (by omega) (by omega), Nat.or_comm, ← Nat.two_pow_add_eq_or_of_lt ha, Nat.add_comm]
/-- the low bits -/
theorem bits_and_mod {k : IntKind} (hk : k.signed = false) (a i : Nat) (ha : a < 2 ^ k.bits) (hi : 2 ^ i - 1 < 2 ^ k.bits) : bits .and k (a : Int) ((2 ^ i - 1 : Nat) : Int) = ((a % 2 ^ i : Nat) : Int) := by
  rw [bits_and_nat hk a (2 ^ i - 1) ha hi, Nat.and_two_pow_sub_one_eq_mod]
end Go.Proofs.YtlolgiphppbcmaaDoor
