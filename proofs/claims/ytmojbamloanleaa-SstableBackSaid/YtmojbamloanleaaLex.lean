/- The order of lists of bytes. No program in sight. -/
import Derived.Test.YtmojbamloanleaaKit
set_option linter.unusedVariables false
set_option linter.unusedSimpArgs false
namespace Go.Proofs.Ytmojbamloanleaa
open Go.RowKit
def lexLt : List Int → List Int → Bool
  | _, [] => false
  | [], _ :: _ => true
  | a :: x, b :: y => decide (a < b) || (decide (a = b) && lexLt x y)
theorem lex_map : ∀ {l m : List Int}, Rng l → Rng m → Op.bytesLess (l.map fun n => UInt8.ofNat n.toNat) (m.map fun n => UInt8.ofNat n.toNat) = lexLt l m
  | [], [], _, _ => rfl
  | _ :: _, [], _, _ => rfl
  | [], _ :: _, _, _ => rfl
  | x :: l, y :: m, hl, hm => by
    have hx := hl x (by simp)
    have hy := hm y (by simp)
    have ih := lex_map (fun z hz => hl z (List.mem_cons_of_mem _ hz)) (fun z hz => hm z (List.mem_cons_of_mem _ hz))
    simp only [List.map_cons, Op.bytesLess, lexLt, ih]
    have e1 : (UInt8.ofNat x.toNat < UInt8.ofNat y.toNat) ↔ x < y := by
      rw [UInt8.lt_iff_toNat_lt]
      have h1 := toNat_ofNat8 hx
      have h2 := toNat_ofNat8 hy
      omega
    have e2 : (UInt8.ofNat x.toNat = UInt8.ofNat y.toNat) ↔ x = y := by
      rw [← UInt8.toNat_inj]
      have h1 := toNat_ofNat8 hx
      have h2 := toNat_ofNat8 hy
      omega
    congr 1
    · exact decide_eq_decide.2 e1
    · congr 1
      rw [Bool.eq_iff_iff, beq_iff_eq, decide_eq_true_eq]; exact e2
/-- '<' of two strings, as the walk writes it -/
theorem str_blt {l m : List Int} (hl : Rng l) (hm : Rng m) : Op.bytesLess (strOfNums l).toList (strOfNums m).toList = lexLt l m := by
  rw [ByteArray.toList_eq, ByteArray.toList_eq, strOfNums_data, strOfNums_data]
  exact lex_map hl hm
/-- a list of bytes as a number, the highest first -/
def valL : List Int → Int
  | [] => 0
  | x :: l => x * 256 ^ l.length + valL l
theorem valL_rng : ∀ {l : List Int}, Rng l → 0 ≤ valL l ∧ valL l < 256 ^ l.length
  | [], _ => by simp [valL]
  | x :: l, h => by
    have hx := h x (by simp)
    have ih := valL_rng (l := l) (fun z hz => h z (List.mem_cons_of_mem _ hz))
    have hp : (0 : Int) < 256 ^ l.length := Int.pow_pos (by decide)
    have h1 : 0 ≤ x * 256 ^ l.length := Int.mul_nonneg hx.1 (by omega)
    have h2 : x * 256 ^ l.length ≤ 255 * 256 ^ l.length := Int.mul_le_mul_of_nonneg_right hx.2 (by omega)
    simp only [valL, List.length_cons, Int.pow_succ]
    omega
theorem lex_val : ∀ {l m : List Int}, l.length = m.length → Rng l → Rng m → lexLt l m = decide (valL l < valL m)
  | [], [], _, _, _ => rfl
  | x :: l, y :: m, hlen, hl, hm => by
    have hlen' : l.length = m.length := by simpa using hlen
    have ih := lex_val hlen' (fun z hz => hl z (List.mem_cons_of_mem _ hz)) (fun z hz => hm z (List.mem_cons_of_mem _ hz))
    have r1 := valL_rng (l := l) (fun z hz => hl z (List.mem_cons_of_mem _ hz))
    have r2 := valL_rng (l := m) (fun z hz => hm z (List.mem_cons_of_mem _ hz))
    rw [Bool.eq_iff_iff]
    simp only [lexLt, ih, Bool.or_eq_true, Bool.and_eq_true, decide_eq_true_eq]
    show (x < y ∨ x = y ∧ valL l < valL m) ↔ x * 256 ^ l.length + valL l < y * 256 ^ m.length + valL m
    rw [← hlen'] at r2 ⊢
    generalize (256 : Int) ^ l.length = B at *
    have hB : 0 < B := by omega
    rcases Int.lt_trichotomy x y with h | h | h
    · have : (x + 1) * B ≤ y * B := Int.mul_le_mul_of_nonneg_right (by omega) (by omega)
      rw [Int.add_mul, Int.one_mul] at this
      constructor
      · intro _; omega
      · intro _; exact .inl h
    · subst h
      constructor
      · rintro (h | h)
        · omega
        · omega
      · intro h; exact .inr ⟨rfl, by omega⟩
    · have : (y + 1) * B ≤ x * B := Int.mul_le_mul_of_nonneg_right (by omega) (by omega)
      rw [Int.add_mul, Int.one_mul] at this
      constructor
      · rintro (h | h) <;> omega
      · intro h; omega
end Go.Proofs.Ytmojbamloanleaa
