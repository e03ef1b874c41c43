/- codec: the check sum tells bytes apart that differ in one place. No program in sight. -/
import Derived.Test.YtlfelpbcnpjneaaCodecSm
namespace Go.Proofs.Ytlfelpbcnpjneaa
open Go.RowKit
namespace Codec
theorem u32_nat {x : Int} (h : U32 x) : ∃ X : Nat, x = X ∧ X < 2 ^ IntKind.u32.bits := by
  obtain ⟨X, rfl⟩ := Int.eq_ofNat_of_zero_le h.1
  exact ⟨X, rfl, by have : IntKind.u32.bits = 32 := rfl; rw [this]; unfold U32 at h; omega⟩
theorem xor_inj {x y p : Int} (hx : U32 x) (hy : U32 y) (hp : U32 p) (h : bits .xor .u32 x p = bits .xor .u32 y p) : x = y := by
  obtain ⟨X, rfl, hX⟩ := u32_nat hx
  obtain ⟨Y, rfl, hY⟩ := u32_nat hy
  obtain ⟨Q, rfl, hQ⟩ := u32_nat hp
  rw [bits_xor_nat (k := .u32) rfl X Q hX hQ, bits_xor_nat (k := .u32) rfl Y Q hY hQ] at h
  have h1 : X ^^^ Q = Y ^^^ Q := by exact_mod_cast h
  have h2 := congrArg (fun z => z ^^^ Q) h1
  simp only [Nat.xor_assoc, Nat.xor_self, Nat.xor_zero] at h2
  rw [h2]
theorem xor_inj' {x y p : Int} (hx : U32 x) (hy : U32 y) (hp : U32 p) (h : bits .xor .u32 p x = bits .xor .u32 p y) : x = y := by
  have e : ∀ a b : Int, bits .xor .u32 a b = bits .xor .u32 b a := fun a b => by unfold bits; simp only [BitVec.xor_comm]
  rw [e p x, e p y] at h
  exact xor_inj hx hy hp h
theorem poly_high {x : Int} (h : 0 ≤ x ∧ x ≤ 2147483647) : 2147483648 ≤ bits .xor .u32 x 3988292384 := by
  obtain ⟨X, rfl⟩ := Int.eq_ofNat_of_zero_le h.1
  have hb : IntKind.u32.bits = 32 := rfl
  have e := bits_xor_nat (k := .u32) rfl X 3988292384 (by rw [hb]; omega) (by decide)
  have e' : bits .xor .u32 (X : Int) 3988292384 = ((X ^^^ 3988292384 : Nat) : Int) := e
  rw [e']
  have ht : (X ^^^ 3988292384).testBit 31 = true := by
    rw [Nat.testBit_xor, Nat.testBit_lt_two_pow (show X < 2 ^ 31 by omega)]
    decide
  have := Nat.ge_two_pow_of_testBit ht
  omega
theorem stepBit_inj {x y : Int} (hx : U32 x) (hy : U32 y) (h : stepBit x = stepBit y) : x = y := by
  have dx : 0 ≤ x / 2 ∧ x / 2 ≤ 2147483647 := by unfold U32 at hx; omega
  have dy : 0 ≤ y / 2 ∧ y / 2 ≤ 2147483647 := by unfold U32 at hy; omega
  have px := poly_high dx
  have py := poly_high dy
  unfold stepBit at h
  by_cases ex : x % 2 = 1 <;> by_cases ey : y % 2 = 1
  · rw [if_pos ex, if_pos ey] at h
    have := xor_inj (by unfold U32; omega) (by unfold U32; omega) (by unfold U32; decide) h
    omega
  · rw [if_pos ex, if_neg ey] at h; omega
  · rw [if_neg ex, if_pos ey] at h; omega
  · rw [if_neg ex, if_neg ey] at h; omega
theorem steps_inj {x y : Int} (hx : U32 x) (hy : U32 y) : ∀ k, steps k x = steps k y → x = y
  | 0, h => h
  | k + 1, h => steps_inj hx hy k (stepBit_inj (steps_rng hx k) (steps_rng hy k) h)
theorem U32.byte {x : Int} (h : 0 ≤ x ∧ x ≤ 255) : U32 x := by unfold U32; omega
/-- the register is told apart by where it began -/
theorem regF_inj : ∀ {l : List Int} {x y : Int}, Rng l → U32 x → U32 y → regF x l = regF y l → x = y
  | [], _, _, _, _, _, h => h
  | c :: l, x, y, hr, hx, hy, h => by
    have hc := U32.byte (hr c (by simp))
    have e : ∀ z, regF z (c :: l) = regF (steps 8 (bits .xor .u32 z c)) l := fun _ => rfl
    rw [e, e] at h
    have h1 := regF_inj (l := l) (fun z hz => hr z (by simp [hz])) (steps_rng (bits_u32_rng _ _ _) 8) (steps_rng (bits_u32_rng _ _ _) 8) h
    exact xor_inj hx hy hc (steps_inj (bits_u32_rng _ _ _) (bits_u32_rng _ _ _) 8 h1)
theorem regF_app (c : Int) (l m : List Int) : regF c (l ++ m) = regF (regF c l) m := by unfold regF; rw [List.foldl_append]
/-- one byte turned turns the register -/
theorem regF_set {l : List Int} {c x : Int} {k : Nat} (hr : Rng l) (hx : 0 ≤ x ∧ x ≤ 255) (hk : k < l.length) (hc : U32 c) (h : regF c (l.set k x) = regF c l) : l[k]? = some x := by
  have e1 : l = l.take k ++ l[k] :: l.drop (k + 1) := by
    rw [← List.drop_eq_getElem_cons hk, List.take_append_drop]
  have e2 : l.set k x = l.take k ++ x :: l.drop (k + 1) := List.set_eq_take_append_cons_drop.trans (if_pos hk)
  have hlk := hr _ (List.getElem_mem hk)
  have e3 : regF c l = regF c (l.take k ++ l[k] :: l.drop (k + 1)) := by rw [← e1]
  rw [e2, e3, regF_app, regF_app] at h
  have e : ∀ z y m, regF z (y :: m) = regF (steps 8 (bits .xor .u32 z y)) m := fun _ _ _ => rfl
  rw [e, e] at h
  have h1 := regF_inj (hr.drop _) (steps_rng (bits_u32_rng _ _ _) 8) (steps_rng (bits_u32_rng _ _ _) 8) h
  have h2 := steps_inj (bits_u32_rng _ _ _) (bits_u32_rng _ _ _) 8 h1
  have h3 := xor_inj' (U32.byte hx) (U32.byte hlk) (regF_rng hc _) h2
  rw [List.getElem?_eq_getElem hk, h3]
theorem sumsF_set {a l : List Int} {x : Int} {k : Nat} (hr : Rng l) (hx : 0 ≤ x ∧ x ≤ 255) (hk : k < l.length) (h : sumsF a (l.set k x) = sumsF a l) : l[k]? = some x := by
  have h0 : U32 4294967295 := by unfold U32; decide
  exact regF_set hr hx hk (regF_rng h0 a) (xor_inj (regF_rng (regF_rng h0 a) _) (regF_rng (regF_rng h0 a) _) h0 h)
theorem le4_inj {c d : Int} (hc : U32 c) (hd : U32 d) (h : le4 c = le4 d) : c = d := by
  unfold le4 at h
  simp only [List.cons.injEq, and_true] at h
  obtain ⟨h1, h2, h3, h4⟩ := h
  unfold U32 at hc hd
  omega
/-- a byte turned is another -/
theorem turn_ne {x y : Int} (hx : 0 ≤ x ∧ x ≤ 255) (hy : 0 ≤ y ∧ y ≤ 255) (h0 : y ≠ 0) : bits .xor .u8 x y ≠ x := by
  obtain ⟨X, rfl⟩ := Int.eq_ofNat_of_zero_le hx.1
  obtain ⟨Y, rfl⟩ := Int.eq_ofNat_of_zero_le hy.1
  have hb : IntKind.u8.bits = 8 := rfl
  rw [bits_xor_nat (k := .u8) rfl X Y (by rw [hb]; omega) (by rw [hb]; omega)]
  intro h
  have h1 : X ^^^ Y = X := by exact_mod_cast h
  have h2 := congrArg (fun z => X ^^^ z) h1
  simp only [← Nat.xor_assoc, Nat.xor_self, Nat.zero_xor] at h2
  omega
theorem turn_rng (x y : Int) : 0 ≤ bits .xor .u8 x y ∧ bits .xor .u8 x y ≤ 255 := by
  unfold bits
  simp [IntKind.wrap, IntKind.bits, IntKind.signed]; omega
end Codec
end Go.Proofs.Ytlfelpbcnpjneaa
