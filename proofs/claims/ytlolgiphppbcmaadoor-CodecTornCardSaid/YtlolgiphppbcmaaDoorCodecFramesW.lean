/- The walk of CodecFrames. -/
import Derived.Test.YtlolgiphppbcmaaDoorCodecTextsW
import Derived.Test.YtlolgiphppbcmaaDoorCodecRTF
namespace Go.Proofs.YtlolgiphppbcmaaDoor
open Go.RowKit
namespace Codec
theorem headF_len (k : Int) (l : List Int) : (headF k l).length = (numN l.length).length + 1 := rfl
theorem frameF_rng {k : Int} (hk : 0 ≤ k ∧ k ≤ 255) {l : List Int} (h : Rng l) : Rng (frameF k l) := ((headF_rng hk l).append (le4_rng _)).append h
/-- what lies behind a head of so many bytes -/
theorem takeFrameF_of {k : Int} {S B m : List Int} {n : Nat} (hn : n ≤ 2097152) (hS : S.length = 4) (hB : B.length = n) :
    takeFrameF (k :: numN n ++ S ++ B ++ m) = if S ≠ le4 (sumsF (k :: numN n) B) then (0, [], 0, 13) else (k, B, ((numN n).length : Int) + 5 + n, 0) := by
  have e1 : (k :: numN n ++ S ++ B ++ m).drop 1 = numN n ++ (S ++ B ++ m) := by simp
  have e2 : lenF (numN n ++ (S ++ B ++ m)) 4 = ((n : Int), ((numN n).length : Int), 0) := lenF_num hn _ 4 (by simp; omega)
  have e3 : (k :: numN n ++ S ++ B ++ m).take ((numN n).length + 1) = k :: numN n := by
    rw [List.append_assoc, List.append_assoc]; exact List.take_left' rfl
  have e4 : (k :: numN n ++ S ++ B ++ m).drop ((numN n).length + 1) = S ++ (B ++ m) := by
    rw [List.append_assoc, List.append_assoc]; exact List.drop_left' rfl
  have e5 : (k :: numN n ++ S ++ B ++ m).drop ((numN n).length + 5) = B ++ m := by
    rw [show (numN n).length + 5 = (numN n).length + 1 + 4 from rfl, ← List.drop_drop, e4]; exact List.drop_left' hS
  unfold takeFrameF
  rw [e1, e2, if_neg (by simp), if_neg (by simp)]
  simp only [Int.toNat_natCast]
  rw [e3, e4, e5, List.take_left' hS, List.take_left' hB]
  rfl
theorem takeFrameF_frame {k : Int} (_ : 0 ≤ k ∧ k ≤ 255) (l m : List Int) (hl : l.length ≤ 2097152) :
    takeFrameF (frameF k l ++ m) = (k, l, ((numN l.length).length : Int) + 5 + l.length, 0) := by
  have := takeFrameF_of (k := k) (B := l) (S := le4 (sumsF (headF k l) l)) (m := m) hl rfl rfl
  rw [if_neg (by simp [headF])] at this
  exact this
end Codec
end Go.Proofs.YtlolgiphppbcmaaDoor
