/- The order of lists of bytes. No program in sight. -/
import Derived.Test.YthaekefdadccaaaDoorKit
namespace Go.Proofs.YthaekefdadccaaaDoor
open Go.RowKit
def lexLt : List Int → List Int → Bool
  | _, [] => false
  | [], _ :: _ => true
  | a :: x, b :: y => decide (a < b) || (decide (a = b) && lexLt x y)
theorem lex_map : ∀ {l m : List Int}, Rng l → Rng m → Op.bytesLess (l.map fun n => UInt8.ofNat n.toNat) (m.map fun n => UInt8.ofNat n.toNat) = lexLt l m
  | [], [], _, _ => rfl
  | _ :: _, [], _, _ => rfl
  | [], _ :: _, _, _ => rfl
  | x :: l, y :: m, hl, hm => by
    have hx := hl x (by simp)
    have hy := hm y (by simp)
    have ih := lex_map (fun z hz => hl z (List.mem_cons_of_mem _ hz)) (fun z hz => hm z (List.mem_cons_of_mem _ hz))
    simp only [List.map_cons, Op.bytesLess, lexLt, ih]
    have e1 : (UInt8.ofNat x.toNat < UInt8.ofNat y.toNat) ↔ x < y := by
      rw [UInt8.lt_iff_toNat_lt]
      have h1 := toNat_ofNat8 hx
      have h2 := toNat_ofNat8 hy
      omega
    have e2 : (UInt8.ofNat x.toNat = UInt8.ofNat y.toNat) ↔ x = y := by
      rw [← UInt8.toNat_inj]
      have h1 := toNat_ofNat8 hx
      have h2 := toNat_ofNat8 hy
      omega
    congr 1
    · exact decide_eq_decide.2 e1
    · congr 1
      rw [Bool.eq_iff_iff, beq_iff_eq, decide_eq_true_eq]; exact e2
/-- '<' of two strings, as the walk writes it -/
theorem str_blt {l m : List Int} (hl : Rng l) (hm : Rng m) : Op.bytesLess (strOfNums l).toList (strOfNums m).toList = lexLt l m := by
  rw [ByteArray.toList_eq, ByteArray.toList_eq, strOfNums_data, strOfNums_data]
  exact lex_map hl hm
end Go.Proofs.YthaekefdadccaaaDoor
