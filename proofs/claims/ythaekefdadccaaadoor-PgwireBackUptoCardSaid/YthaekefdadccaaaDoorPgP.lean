/- pgwire, plainly: messages, numbers, what a client's message is. No program in sight. pgwire, plainly: what is written. No program in sight. -/
import Derived.Test.YthaekefdadccaaaDoorPmD
import Derived.Test.YthaekefdadccaaaDoorBytesFn
namespace Go.Proofs.YthaekefdadccaaaDoor
open Go.RowKit
namespace PM
/-- a client's message -/
structure Front where
  kind : Int
  params : List (List Int × List Int)
  text : List Int
  pid : Int
  secret : Int
  tag : Int
def Front.same (f g : Front) : Bool := decide (f.kind = g.kind) && (decide (f.params = g.params) && (decide (f.text = g.text) && (decide (f.pid = g.pid) && (decide (f.secret = g.secret) && decide (f.tag = g.tag)))))
def prmC (p : List Int × List Int) : List DV := [.str p.1, .str p.2]
def Front.c (f : Front) : List DV := [.int .i64 f.kind, .sl 2 (encL prmC f.params), .str f.text, .int .i64 f.pid, .int .i64 f.secret, .int .u8 f.tag]
def Front.v (f : Front) : AV := .agg (f.c.map AV.d)
def zF : Front := ⟨0, [], [], 0, 0, 0⟩
/-- four bytes, the highest first, with a sign -/
def i32v (b : List Int) : Int :=
  let n := ((b.getD 0 0 * 256 + b.getD 1 0) * 256 + b.getD 2 0) * 256 + b.getD 3 0
  if 2147483648 ≤ n then n - 4294967296 else n
/-- up to the first 0; what stands behind it -/
def cut0 : List Int → Option (List Int × List Int)
  | [] => none
  | c :: r => if c = 0 then some ([], r) else (cut0 r).map fun x => (c :: x.1, x.2)
theorem cut0_spec : ∀ {l a r : List Int}, cut0 l = some (a, r) → l = a ++ 0 :: r ∧ (∀ x ∈ a, x ≠ 0)
  | [], a, r, h => by cases h
  | c :: l, a, r, h => by
    unfold cut0 at h
    split at h
    · rename_i hc; subst hc; cases h; exact ⟨rfl, fun x hx => by cases hx⟩
    · rename_i hc
      simp only [Option.map_eq_some_iff] at h
      obtain ⟨⟨a', r'⟩, h1, h2⟩ := h
      cases h2
      obtain ⟨h3, h4⟩ := cut0_spec h1
      refine ⟨by rw [h3]; rfl, fun x hx => ?_⟩
      rcases List.mem_cons.1 hx with rfl | hx
      · exact hc
      · exact h4 x hx
theorem cut0_app : ∀ {a : List Int} (r : List Int), (∀ x ∈ a, x ≠ 0) → cut0 (a ++ 0 :: r) = some (a, r)
  | [], r, _ => by simp [cut0]
  | c :: a, r, h => by
    have h1 := h c (by simp)
    have h2 := cut0_app r (fun x hx => h x (List.mem_cons_of_mem _ hx))
    simp [cut0, h1, h2]
theorem cut0_len {l a r : List Int} (h : cut0 l = some (a, r)) : l.length = a.length + 1 + r.length := by
  rw [(cut0_spec h).1]; simp; omega
/-- a startup's parameters: the error -/
def paramsF : Nat → Nat → List Int → List (List Int × List Int) × Int
  | 0, _, _ => ([], 230)
  | f + 1, k, b => match b with
    | [] => ([], 230)
    | c :: r => if c = 0 then (if r = [] then ([], 0) else ([], 230)) else if k = 32 then ([], 231) else
      match cut0 b with
      | none => ([], 230)
      | some (nm, r1) => match cut0 r1 with
        | none => ([], 230)
        | some (v, r2) => let q := paramsF f (k + 1) r2; if q.2 ≠ 0 then ([], q.2) else ((nm, v) :: q.1, 0)
def paramsS (b : List Int) : List (List Int × List Int) × Int := paramsF (b.length + 1) 0 b
def firstS (b : List Int) : Front × Int × Int :=
  if b.length < 4 then (zF, 0, 10) else
  if i32v b < 8 then (zF, 0, 230) else if 10000 < i32v b then (zF, 0, 231) else if (b.length : Int) < i32v b then (zF, 0, 10) else
  if i32v (b.drop 4) = 80877103 then (if i32v b ≠ 8 then (zF, 0, 230) else ({ zF with kind := 2 }, i32v b, 0)) else
  if i32v (b.drop 4) = 80877102 then (if i32v b ≠ 16 then (zF, 0, 230) else ({ zF with kind := 3, pid := i32v (b.drop 8), secret := i32v (b.drop 12) }, i32v b, 0)) else
  if i32v (b.drop 4) = 196608 then
    (if (paramsS ((b.take (i32v b).toNat).drop 8)).2 ≠ 0 then (zF, 0, (paramsS ((b.take (i32v b).toNat).drop 8)).2) else ({ zF with kind := 1, params := (paramsS ((b.take (i32v b).toNat).drop 8)).1 }, i32v b, 0))
  else (zF, 0, 232)
/-- the message of a tag and a body -/
def bodyS (tag : Int) (body : List Int) : Front × Int :=
  if tag = 81 then (match cut0 body with | some (a, []) => ({ zF with kind := 4, text := a }, 0) | _ => (zF, 230)) else
  if tag = 88 then (if body = [] then ({ zF with kind := 5 }, 0) else (zF, 230)) else ({ zF with kind := 6, tag := tag }, 0)
def laterS (b : List Int) : Front × Int × Int :=
  if b.length = 0 then (zF, 0, 10) else if b.getD 0 0 = 0 ∨ 127 < b.getD 0 0 then (zF, 0, 230) else if b.length < 5 then (zF, 0, 10) else
  if i32v (b.drop 1) < 4 then (zF, 0, 230) else if 1048576 < i32v (b.drop 1) then (zF, 0, 231) else if (b.length : Int) - 1 < i32v (b.drop 1) then (zF, 0, 10) else
  if (bodyS (b.getD 0 0) ((b.take (1 + i32v (b.drop 1)).toNat).drop 5)).2 ≠ 0 then (zF, 0, (bodyS (b.getD 0 0) ((b.take (1 + i32v (b.drop 1)).toNat).drop 5)).2)
  else ((bodyS (b.getD 0 0) ((b.take (1 + i32v (b.drop 1)).toNat).drop 5)).1, 1 + i32v (b.drop 1), 0)
def takeFrontS (b : List Int) (s : Bool) : Front × Int × Int := if s = true then firstS b else laterS b
/-- numbers out of bytes -/
theorem wrap_i64_mod (n : Int) : ∃ q : Int, IntKind.i64.wrap n = n - q * 18446744073709551616 ∧ -9223372036854775808 ≤ IntKind.i64.wrap n ∧ IntKind.i64.wrap n ≤ 9223372036854775807 := by
  have e : IntKind.i64.wrap n = (if 9223372036854775808 ≤ n % 18446744073709551616 then n % 18446744073709551616 - 18446744073709551616 else n % 18446744073709551616) := by
    simp [IntKind.wrap, IntKind.bits, IntKind.signed]
  rw [e]
  by_cases hh : 9223372036854775808 ≤ n % 18446744073709551616
  · refine ⟨n / 18446744073709551616 + 1, ?_, ?_, ?_⟩ <;> simp only [hh, ↓reduceIte] <;> omega
  · refine ⟨n / 18446744073709551616, ?_, ?_, ?_⟩ <;> simp only [hh, ↓reduceIte] <;> omega
theorem or_low (x : BitVec 64) (c : Nat) (hc : c < 256) : (x <<< 8) ||| BitVec.ofNat 64 c = (x <<< 8) + BitVec.ofNat 64 c := by
  refine (BitVec.add_eq_or_of_and_eq_zero _ _ ?_).symm
  apply BitVec.eq_of_getLsbD_eq
  intro i hi
  simp only [BitVec.getLsbD_and, BitVec.getLsbD_shiftLeft, BitVec.getLsbD_ofNat]
  by_cases h : i < 8
  · simp [h]
  · have : c.testBit i = false := Nat.testBit_lt_two_pow (Nat.lt_of_lt_of_le hc (by rw [show (256 : Nat) = 2 ^ 8 from rfl]; exact Nat.pow_le_pow_right (by decide) (by omega)))
    simp [this]
/-- a byte behind a number -/
theorem or_byte {n c : Int} (h0 : -1099511627776 ≤ n) (h1 : n ≤ 1099511627776) (hc : 0 ≤ c) (hc' : c ≤ 255) :
    IntKind.i64.wrap ((BitVec.ofInt IntKind.i64.bits (n * 256) ||| BitVec.ofInt IntKind.i64.bits c).toNat : Int) = n * 256 + c := by
  show IntKind.i64.wrap ((BitVec.ofInt 64 (n * 256) ||| BitVec.ofInt 64 c).toNat : Int) = n * 256 + c
  have e1 : BitVec.ofInt 64 (n * 256) = BitVec.ofInt 64 n <<< 8 := by
    apply BitVec.eq_of_toNat_eq
    rw [BitVec.toNat_shiftLeft, BitVec.toNat_ofInt, BitVec.toNat_ofInt, Nat.shiftLeft_eq]
    omega
  have e2 : BitVec.ofInt 64 c = BitVec.ofNat 64 c.toNat := by
    apply BitVec.eq_of_toNat_eq
    rw [BitVec.toNat_ofInt, BitVec.toNat_ofNat]
    omega
  rw [e1, e2, or_low _ _ (by omega), ← e1, ← e2]
  obtain ⟨q, hq, hl, hu⟩ := wrap_i64_mod ((BitVec.ofInt 64 (n * 256) + BitVec.ofInt 64 c).toNat : Int)
  rw [BitVec.toNat_add, BitVec.toNat_ofInt, BitVec.toNat_ofInt] at hq hl hu ⊢
  omega
theorem or_u32 (a b k q : Nat) (hq : q = 2 ^ k) (hb : b < q) (h : a * q + b < 4294967296) : IntKind.u32.wrap ((BitVec.ofInt IntKind.u32.bits ((a * q : Nat) : Int) ||| BitVec.ofInt IntKind.u32.bits (b : Int)).toNat : Int) = ((a * q + b : Nat) : Int) := by
  have e : (2 : Nat) ^ IntKind.u32.bits = 4294967296 := by decide
  have h1 := bits_or_nat (k := .u32) rfl (a * q) b (by rw [e]; omega) (by rw [e]; omega)
  have h2 : bits .or .u32 ((a * q : Nat) : Int) (b : Int) = IntKind.u32.wrap ((BitVec.ofInt IntKind.u32.bits ((a * q : Nat) : Int) ||| BitVec.ofInt IntKind.u32.bits (b : Int)).toNat : Int) := rfl
  subst hq
  rw [← h2, h1, Nat.mul_comm a, ← Nat.two_pow_add_eq_or_of_lt hb]
set_option maxRecDepth 100000 in
theorem wrap_i32_of {n : Int} (h0 : 0 ≤ n) (h1 : n ≤ 4294967295) : IntKind.i32.wrap n = if 2147483648 ≤ n then n - 4294967296 else n := by
  simp only [IntKind.wrap, IntKind.bits, IntKind.signed, Bool.true_and, decide_eq_true_eq, Int.reducePow, Nat.reduceSub, ge_iff_le]
  have : n % 4294967296 = n := Int.emod_eq_of_lt h0 (by omega)
  rw [this]
set_option maxRecDepth 100000 in
theorem be32 {x0 x1 x2 x3 : Int} (r0 : 0 ≤ x0 ∧ x0 ≤ 255) (r1 : 0 ≤ x1 ∧ x1 ≤ 255) (r2 : 0 ≤ x2 ∧ x2 ≤ 255) (r3 : 0 ≤ x3 ∧ x3 ≤ 255) :
    IntKind.i64.wrap (IntKind.i32.wrap (IntKind.u32.wrap ((BitVec.ofInt IntKind.u32.bits (IntKind.u32.wrap ((BitVec.ofInt IntKind.u32.bits (IntKind.u32.wrap ((BitVec.ofInt IntKind.u32.bits (IntKind.u32.wrap (x0 * 2 ^ min 24 IntKind.u32.bits)) ||| BitVec.ofInt IntKind.u32.bits (IntKind.u32.wrap (x1 * 2 ^ min 16 IntKind.u32.bits))).toNat : Int)) ||| BitVec.ofInt IntKind.u32.bits (IntKind.u32.wrap (x2 * 2 ^ min 8 IntKind.u32.bits))).toNat : Int)) ||| BitVec.ofInt IntKind.u32.bits x3).toNat : Int)))
      = if 2147483648 ≤ ((x0 * 256 + x1) * 256 + x2) * 256 + x3 then ((x0 * 256 + x1) * 256 + x2) * 256 + x3 - 4294967296 else ((x0 * 256 + x1) * 256 + x2) * 256 + x3 := by
  obtain ⟨n0, rfl⟩ := Int.eq_ofNat_of_zero_le r0.1
  obtain ⟨n1, rfl⟩ := Int.eq_ofNat_of_zero_le r1.1
  obtain ⟨n2, rfl⟩ := Int.eq_ofNat_of_zero_le r2.1
  obtain ⟨n3, rfl⟩ := Int.eq_ofNat_of_zero_le r3.1
  have e0 : IntKind.u32.wrap ((n0 : Int) * 2 ^ min 24 IntKind.u32.bits) = ((n0 * 16777216 : Nat) : Int) := by
    rw [show ((2 : Int) ^ min 24 IntKind.u32.bits) = 16777216 from by decide, wl_u32 (by simp; omega)]
    omega
  have e1 : IntKind.u32.wrap ((n1 : Int) * 2 ^ min 16 IntKind.u32.bits) = ((n1 * 65536 : Nat) : Int) := by
    rw [show ((2 : Int) ^ min 16 IntKind.u32.bits) = 65536 from by decide, wl_u32 (by simp; omega)]
    omega
  have e2 : IntKind.u32.wrap ((n2 : Int) * 2 ^ min 8 IntKind.u32.bits) = ((n2 * 256 : Nat) : Int) := by
    rw [show ((2 : Int) ^ min 8 IntKind.u32.bits) = 256 from by decide, wl_u32 (by simp; omega)]
    omega
  have s2 : n0 * 16777216 + n1 * 65536 = (n0 * 256 + n1) * 65536 := by simp only [Nat.add_mul, Nat.mul_assoc, Nat.reduceMul]
  have s3 : (n0 * 256 + n1) * 65536 + n2 * 256 = ((n0 * 256 + n1) * 256 + n2) * 256 := by simp only [Nat.add_mul, Nat.mul_assoc, Nat.reduceMul]
  rw [e0, e1, e2, or_u32 n0 (n1 * 65536) 24 16777216 (by decide) (by omega) (by omega), s2,
    or_u32 (n0 * 256 + n1) (n2 * 256) 16 65536 (by decide) (by omega) (by omega), s3,
    or_u32 ((n0 * 256 + n1) * 256 + n2) n3 8 256 (by decide) (by omega) (by omega)]
  have hb : ((((n0 * 256 + n1) * 256 + n2) * 256 + n3 : Nat) : Int) = (((n0 : Int) * 256 + n1) * 256 + n2) * 256 + n3 := by omega
  rw [hb, wrap_i32_of (by omega) (by omega)]
  refine wl_i64 ?_
  simp only [Bool.and_eq_true, decide_eq_true_eq]
  split <;> omega
end PM
end Go.Proofs.YthaekefdadccaaaDoor
namespace Go.Proofs.YthaekefdadccaaaDoor
open Go.RowKit
namespace PM
def big4 (n : Int) : List Int := [n / 16777216 % 256, n / 65536 % 256, n / 256 % 256, n % 256]
def big2 (n : Int) : List Int := [n / 256 % 256, n % 256]
def has0 (s : List Int) : Bool := decide (0 ≤ idxI s 0)
def i32ok (n : Int) : Bool := decide (-2147483648 ≤ n) && decide (n ≤ 2147483647)
theorem wrap_u8 (n : Int) : IntKind.u8.wrap n = n % 256 := by
  simp [IntKind.wrap, IntKind.bits, IntKind.signed]
theorem has0_iff (s : List Int) : has0 s = true ↔ (0 : Int) ∈ s := by
  unfold has0
  rw [decide_eq_true_eq]
  induction s with
  | nil => simp [idxI]
  | cons x s ih =>
    have := (idxI_rng s 0).1
    unfold idxI
    by_cases hx : x = 0
    · simp [hx]
    · rw [if_neg hx, List.mem_cons]
      have hx' : ¬ (0 : Int) = x := fun h => hx h.symm
      simp only [hx', false_or, ← ih]
      split <;> omega
end PM
end Go.Proofs.YthaekefdadccaaaDoor
