/- pgwire: the reference's digits. -/
import Derived.Test.YthaekefdadccaaaDoorRows
import Derived.ProofKit
import Derived.Test.YthaekefdadccaaaDoorKit
import Derived.Lib.ItoaNum
import Derived.Lib.LazyBuf
set_option linter.unusedVariables false
set_option linter.unusedSimpArgs false
namespace Go.Proofs.YthaekefdadccaaaDoor
open Go.RowKit
namespace Sy
theorem wrap_u64 (n : Int) : IntKind.u64.wrap n = n % 18446744073709551616 := by simp [IntKind.wrap, IntKind.bits, IntKind.signed]
theorem str_app (a b : List Int) : strOfNums a ++ strOfNums b = strOfNums (a ++ b) := by
  apply ByteArray.ext
  rw [ByteArray.data_append]
  simp [strOfNums]
def digL (u : Nat) : List Int := (Lib.decDigits u).map fun b => (b.toNat : Int)
theorem byte48 {d : Nat} (h : d ≤ 9) : ((UInt8.ofNat (48 + d)).toNat : Int) = 48 + (d : Int) := by
  rw [UInt8.toNat_ofNat']
  omega
theorem dig_small {u : Nat} (h : u < 10) : digL u = [48 + (u : Int)] := by
  unfold digL
  rw [Lib.decDigits, dif_pos h, List.map_cons, List.map_nil, byte48 (by omega)]
theorem dig_big {u : Nat} (h : 10 ≤ u) : digL u = digL (u / 10) ++ [48 + ((u % 10 : Nat) : Int)] := by
  unfold digL
  rw [Lib.decDigits, dif_neg (by omega), List.map_append, List.map_cons, List.map_nil, byte48 (by omega)]
theorem dec_len : ∀ (n u : Nat), u < 10 ^ (n + 1) → (digL u).length ≤ n + 1
  | 0, u, h => by
    rw [dig_small (by omega)]
    simp
  | n + 1, u, h => by
    by_cases h9 : u < 10
    · rw [dig_small h9]
      simp
    · rw [dig_big (by omega)]
      have := dec_len n (u / 10) (by rw [Nat.pow_succ] at h; omega)
      simp
      omega
theorem dig_len (u : Nat) (h : u ≤ 18446744073709551615) : (digL u).length ≤ 20 := dec_len 19 u (Nat.lt_of_le_of_lt h (by decide))
theorem isB_one (w : World) (x : Int) (h : 0 ≤ x ∧ x ≤ 255) : IsB (w.alloc (.cells #[.int .u8 x] 5)) (.slice (some ⟨w.heap.size, 0, none⟩) 1 1) [x] := by
  refine ⟨fun y hy => by rw [List.mem_singleton.1 hy]; exact h, _, 1, rfl, by simp, by simp [maxLen], fun hn => (by cases hn), fun a ha _ => ?_⟩
  cases ha
  refine ⟨rfl, by simp, fun i hi => ?_⟩
  have : i = 0 := by simpa using hi
  subst this
  go_simp
def DigP (n : Int) (w : World) (e : Ending) (w' : World) : Prop := e = .returned (.string ⟨(Lib.itoa n).toArray⟩) ∧ Below w.heap.size w w'
set_option maxRecDepth 100000 in
set_option maxHeartbeats 2000000 in
theorem digits_neg (n : Int) (w : World) (h0 : -9223372036854775808 ≤ n) (hn : n < 0) : Calls Tryd.prog 54 #[.int .i64 n] w (DigP n w) := by
  obtain ⟨u0, hu0, hu1⟩ : ∃ u0 : Nat, (n.natAbs = u0) ∧ u0 ≤ 18446744073709551615 := ⟨n.natAbs, by omega, by omega⟩
  have hw : IntKind.u64.wrap (-IntKind.u64.wrap n) = (u0 : Int) := by
    rw [wrap_u64 n, wrap_u64]; omega
  have HL := Lib.hid (dig_len u0 (by omega))
  have HIT : Hid ((Lib.itoa n) = 45 :: Lib.decDigits u0) := Lib.hid (by
    unfold Lib.itoa
    rw [if_pos hn, hu0])
  have HU1 := Lib.hid hu1
  clear hu1 hu0
  go_enter Tryd.func54, Tryd.ntmps54
  go_wp2_with fail
  go_loopw [3, 4] (fun a b wr => ∃ u : Nat, ∃ s : List Int, a = .int .u64 u ∧ b = .string (strOfNums s) ∧ u ≤ 18446744073709551615 ∧ s.length ≤ 30 ∧ Hid (digL u ++ s = digL u0) ∧ Hid (Below w.heap.size w wr)) (fun a _ _ => (intOf a).toNat)
  case atStart => exact ⟨u0, [], by go_num, rfl, HU1.out, by simp, List.append_nil _, Below.refl _ _⟩
  case round =>
    obtain ⟨u, s, rfl, rfl, hu, hs, heq, hb⟩ := hrel
    have hmx : maxLen = 9223372036854775807 := rfl
    by_cases h10 : 10 ≤ u
    · have q0 : (10 : Int) ≤ u := by omega
      have HD : Hid (digL u = digL (u / 10) ++ [48 + ((u % 10 : Nat) : Int)]) := Lib.hid (dig_big h10)
      have hdm : u % 10 ≤ 9 := by omega
      have hdd : u / 10 < u := by omega
      have q1 : Int.tmod (u : Int) 10 = ((u % 10 : Nat) : Int) := rfl
      have q2 : Int.tdiv (u : Int) 10 = ((u / 10 : Nat) : Int) := rfl
      have HDD := Lib.hid hdd
      generalize u % 10 = d at *
      generalize u / 10 = v at *
      have q3 := IntWalk.u64_in (48 + (d : Int)) (by omega)
      have q4 := IntWalk.u8_in (48 + (d : Int)) (by omega)
      have q5 := IntWalk.u64_in (d : Int) (by omega)
      have q6 := IntWalk.u64_in (v : Int) (by omega)
      have cv := (isB_one wr (48 + (d : Int)) (by omega)).conv (P := Tryd.prog) Tryd.underlying22 Tryd.underlying5 Tryd.underlying9
      have hsz1 : (strOfNums [48 + (d : Int)]).size = 1 := strOfNums_size _
      have hsz2 : (strOfNums s).size = s.length := strOfNums_size _
      have HLE : Hid ((digL v ++ [48 + (d : Int)]) ++ s = digL u0) := Lib.hid (by rw [← HD.out]; exact heq.out)
      have hle : s.length + 1 ≤ 30 := by
        have h1 := congrArg List.length HLE.out
        have h2 := HL.out
        simp only [List.length_append, List.length_singleton] at h1
        omega
      clear h10 hdd HD
      go_wp2_with fail
      refine ⟨⟨v, (48 + (d : Int)) :: s, rfl, by rw [str_app]; rfl, by have := HDD.out; omega, by simpa using hle, by have := HLE.out; rw [List.append_assoc] at this; exact this, bel_alloc hb.out _⟩, ?_⟩
      have := HDD.out
      simp [intOf] <;> omega
    · have q0 : ¬ (10 : Int) ≤ u := by omega
      have HD : Hid (digL u = [48 + (u : Int)]) := Lib.hid (dig_small (by omega))
      have q3 := IntWalk.u64_in (48 + (u : Int)) (by omega)
      have q4 := IntWalk.u8_in (48 + (u : Int)) (by omega)
      have cv := (isB_one wr (48 + (u : Int)) (by omega)).conv (P := Tryd.prog) Tryd.underlying22 Tryd.underlying5 Tryd.underlying9
      have hsz1 : (strOfNums [48 + (u : Int)]).size = 1 := strOfNums_size _
      have hsz2 : (strOfNums s).size = s.length := strOfNums_size _
      have hsz3 : (strOfNums [48 + (u : Int)] ++ strOfNums s).size = s.length + 1 := by rw [str_app, strOfNums_size]; simp
      have HE : Hid (strOfNums [48 + (u : Int)] ++ strOfNums s = ⟨(Lib.decDigits u0).toArray⟩) := Lib.hid (by
        rw [str_app, ← HD.out, heq.out]
        exact Lib.Lz.strOfNums_map _)
      clear h10
      go_wp2_with fail
      go_ret
      refine ⟨?_, bel_alloc hb.out _⟩
      rw [HIT.out]
      rw [HE.out]; rfl
set_option maxRecDepth 100000 in
set_option maxHeartbeats 2000000 in
theorem digits_pos (n : Int) (w : World) (hn : ¬ n < 0) (h1 : n ≤ 9223372036854775807) : Calls Tryd.prog 54 #[.int .i64 n] w (DigP n w) := by
  obtain ⟨u0, hu0, hu1⟩ : ∃ u0 : Nat, n = (u0 : Int) ∧ u0 ≤ 18446744073709551615 := ⟨n.toNat, by omega, by omega⟩
  have hw : IntKind.u64.wrap n = (u0 : Int) := by
    rw [wrap_u64 n]; omega
  have HL := Lib.hid (dig_len u0 (by omega))
  have HIT : Hid ((Lib.itoa n) = Lib.decDigits u0) := Lib.hid (by
    unfold Lib.itoa
    rw [if_neg hn, hu0, Int.toNat_natCast])
  have HU1 := Lib.hid hu1
  clear hu1 hu0
  go_enter Tryd.func54, Tryd.ntmps54
  go_wp2_with fail
  go_loopw [3, 4] (fun a b wr => ∃ u : Nat, ∃ s : List Int, a = .int .u64 u ∧ b = .string (strOfNums s) ∧ u ≤ 18446744073709551615 ∧ s.length ≤ 30 ∧ Hid (digL u ++ s = digL u0) ∧ Hid (Below w.heap.size w wr)) (fun a _ _ => (intOf a).toNat)
  case atStart => exact ⟨u0, [], by go_num, rfl, HU1.out, by simp, List.append_nil _, Below.refl _ _⟩
  case round =>
    obtain ⟨u, s, rfl, rfl, hu, hs, heq, hb⟩ := hrel
    have hmx : maxLen = 9223372036854775807 := rfl
    by_cases h10 : 10 ≤ u
    · have q0 : (10 : Int) ≤ u := by omega
      have HD : Hid (digL u = digL (u / 10) ++ [48 + ((u % 10 : Nat) : Int)]) := Lib.hid (dig_big h10)
      have hdm : u % 10 ≤ 9 := by omega
      have hdd : u / 10 < u := by omega
      have q1 : Int.tmod (u : Int) 10 = ((u % 10 : Nat) : Int) := rfl
      have q2 : Int.tdiv (u : Int) 10 = ((u / 10 : Nat) : Int) := rfl
      have HDD := Lib.hid hdd
      generalize u % 10 = d at *
      generalize u / 10 = v at *
      have q3 := IntWalk.u64_in (48 + (d : Int)) (by omega)
      have q4 := IntWalk.u8_in (48 + (d : Int)) (by omega)
      have q5 := IntWalk.u64_in (d : Int) (by omega)
      have q6 := IntWalk.u64_in (v : Int) (by omega)
      have cv := (isB_one wr (48 + (d : Int)) (by omega)).conv (P := Tryd.prog) Tryd.underlying22 Tryd.underlying5 Tryd.underlying9
      have hsz1 : (strOfNums [48 + (d : Int)]).size = 1 := strOfNums_size _
      have hsz2 : (strOfNums s).size = s.length := strOfNums_size _
      have HLE : Hid ((digL v ++ [48 + (d : Int)]) ++ s = digL u0) := Lib.hid (by rw [← HD.out]; exact heq.out)
      have hle : s.length + 1 ≤ 30 := by
        have h1 := congrArg List.length HLE.out
        have h2 := HL.out
        simp only [List.length_append, List.length_singleton] at h1
        omega
      clear h10 hdd HD
      go_wp2_with fail
      refine ⟨⟨v, (48 + (d : Int)) :: s, rfl, by rw [str_app]; rfl, by have := HDD.out; omega, by simpa using hle, by have := HLE.out; rw [List.append_assoc] at this; exact this, bel_alloc hb.out _⟩, ?_⟩
      have := HDD.out
      simp [intOf] <;> omega
    · have q0 : ¬ (10 : Int) ≤ u := by omega
      have HD : Hid (digL u = [48 + (u : Int)]) := Lib.hid (dig_small (by omega))
      have q3 := IntWalk.u64_in (48 + (u : Int)) (by omega)
      have q4 := IntWalk.u8_in (48 + (u : Int)) (by omega)
      have cv := (isB_one wr (48 + (u : Int)) (by omega)).conv (P := Tryd.prog) Tryd.underlying22 Tryd.underlying5 Tryd.underlying9
      have hsz1 : (strOfNums [48 + (u : Int)]).size = 1 := strOfNums_size _
      have hsz2 : (strOfNums s).size = s.length := strOfNums_size _
      have hsz3 : (strOfNums [48 + (u : Int)] ++ strOfNums s).size = s.length + 1 := by rw [str_app, strOfNums_size]; simp
      have HE : Hid (strOfNums [48 + (u : Int)] ++ strOfNums s = ⟨(Lib.decDigits u0).toArray⟩) := Lib.hid (by
        rw [str_app, ← HD.out, heq.out]
        exact Lib.Lz.strOfNums_map _)
      clear h10
      go_wp2_with fail
      go_ret
      refine ⟨?_, bel_alloc hb.out _⟩
      rw [HIT.out, HE.out]
      rfl
theorem digits_any (n : Int) (w : World) (h0 : -9223372036854775808 ≤ n) (h1 : n ≤ 9223372036854775807) : Calls Tryd.prog 54 #[.int .i64 n] w (DigP n w) := by
  by_cases hn : n < 0
  · exact digits_neg n w h0 hn
  · exact digits_pos n w hn h1
end Sy
end Go.Proofs.YthaekefdadccaaaDoor
