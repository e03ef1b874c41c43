/- codec: the check sum of both. -/
import Derived.Test.YtfkemeamimcnjaaDoorBytesFn
import Derived.Test.YtfkemeamimcnjaaDoorKit
set_option linter.unusedVariables false
set_option linter.unusedSimpArgs false
namespace Go.Proofs.YtfkemeamimcnjaaDoor
open Go.RowKit
namespace Codec
def U32 (x : Int) : Prop := 0 ≤ x ∧ x ≤ 4294967295
def stepBit (c : Int) : Int := if c % 2 = 1 then bits .xor .u32 (c / 2) 3988292384 else c / 2
def steps : Nat → Int → Int
  | 0, c => c
  | k + 1, c => stepBit (steps k c)
def regF (c : Int) (l : List Int) : Int := l.foldl (fun c x => steps 8 (bits .xor .u32 c x)) c
theorem bits_u32_rng (op : BinOp) (x y : Int) : U32 (bits op .u32 x y) := by
  unfold bits U32
  simp [IntKind.wrap, IntKind.bits, IntKind.signed]; omega
theorem stepBit_rng {c : Int} (h : U32 c) : U32 (stepBit c) := by
  unfold stepBit
  split
  · exact bits_u32_rng _ _ _
  · unfold U32 at *; omega
theorem steps_rng {c : Int} (h : U32 c) : ∀ k, U32 (steps k c)
  | 0 => h
  | k + 1 => stepBit_rng (steps_rng h k)
theorem regF_snoc {l : List Int} {k : Nat} {x c : Int} (h : l[k]? = some x) : regF c (l.take (k + 1)) = steps 8 (bits .xor .u32 (regF c (l.take k)) x) := by
  rw [take_snoc h]; unfold regF; rw [List.foldl_append]; rfl
theorem regF_rng {c : Int} (h : U32 c) (l : List Int) : U32 (regF c l) := by
  unfold regF
  rcases List.eq_nil_or_concat l with rfl | ⟨m, x, rfl⟩
  · exact h
  · rw [List.concat_eq_append, List.foldl_append]; exact steps_rng (bits_u32_rng _ _ _) 8
theorem and_one (c : Int) (h : U32 c) : bits .and .u32 c 1 = c % 2 := by
  obtain ⟨C, rfl⟩ := Int.eq_ofNat_of_zero_le h.1
  have hC : C < 2 ^ IntKind.u32.bits := by
    have : IntKind.u32.bits = 32 := rfl
    rw [this]; unfold U32 at h; omega
  have e := bits_and_mod (k := .u32) rfl C 1 hC (by decide)
  have e' : bits .and .u32 (C : Int) 1 = ((C % 2 : Nat) : Int) := e
  rw [e']; omega
theorem xor_zero32 {x : Int} (h : U32 x) : bits .xor .u32 x 0 = x := by
  obtain ⟨X, rfl⟩ := Int.eq_ofNat_of_zero_le h.1
  have hX : X < 2 ^ IntKind.u32.bits := by
    have : IntKind.u32.bits = 32 := rfl
    rw [this]; unfold U32 at h; omega
  have e := bits_xor_nat (k := .u32) rfl X 0 hX (by decide)
  have e' : bits .xor .u32 (X : Int) 0 = ((X ^^^ 0 : Nat) : Int) := e
  rw [e', Nat.xor_zero]
theorem step_prog {n : Int} (h : U32 n) : bits .xor .u32 (n / 2) (bits .and .u32 3988292384 (-bits .and .u32 n 1 % 4294967296)) = stepBit n := by
  rw [and_one n h]
  unfold stepBit
  have hd : U32 (n / 2) := by unfold U32 at *; omega
  rcases Int.emod_two_eq n with e | e
  · rw [e, if_neg (by decide), show bits .and .u32 3988292384 (-0 % 4294967296) = 0 from by decide]
    exact xor_zero32 hd
  · rw [e, if_pos rfl, show bits .and .u32 3988292384 (-1 % 4294967296) = 3988292384 from by decide]
theorem xor_comm32 (x y : Int) : bits .xor .u32 x y = bits .xor .u32 y x := by unfold bits; simp only [BitVec.xor_comm]
/-- the sum -/
def sumF (l : List Int) : Int := bits .xor .u32 (regF 4294967295 l) 4294967295
end Codec
end Go.Proofs.YtfkemeamimcnjaaDoor
