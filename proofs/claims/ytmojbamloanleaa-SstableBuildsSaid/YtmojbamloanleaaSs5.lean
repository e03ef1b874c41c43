/- sstable: numbers in eight and four bytes (walks). -/
import Derived.Test.YtmojbamloanleaaSs3
set_option linter.unusedVariables false
set_option linter.unusedSimpArgs false
namespace Go.Proofs.Ytmojbamloanleaa
open Go.RowKit
namespace Ss
open Mt Codec
theorem hiB_at (n : Nat) : ∀ k j, j < k → (hiB n k)[j]? = some (((n / 256 ^ (k - 1 - j)) % 256 : Nat) : Int)
  | 0, j, h => by omega
  | k + 1, 0, _ => by simp [hiB]
  | k + 1, j + 1, h => by
    rw [hiB, List.getElem?_cons_succ, hiB_at n k j (by omega), show k + 1 - 1 - (j + 1) = k - 1 - j by omega]
theorem hiB_rng (n : Nat) : ∀ k, Rng (hiB n k)
  | 0 => Rng.nil
  | k + 1 => Rng.cons (by omega) (hiB_rng n k)
theorem fill_step {l : List Int} {q : Nat} {x : Int} (hx : l[q]? = some x) : (List.replicate (q + 1) 0 ++ l.drop (q + 1)).set q x = List.replicate q 0 ++ l.drop q := by
  have hl := (List.getElem?_eq_some_iff.1 hx).1
  apply List.ext_getElem?
  intro i
  by_cases hi : i = q
  · subst hi
    rw [List.getElem?_set_self (by simp; omega), List.getElem?_append_right (by simp)]
    simp [hx]
  · rw [List.getElem?_set_ne (by omega)]
    by_cases h2 : i < q
    · rw [List.getElem?_append_left (by simp; omega), List.getElem?_append_left (by simp; omega)]
      simp [List.getElem?_replicate, h2, (by omega : i < q + 1)]
    · rw [List.getElem?_append_right (by simp; omega), List.getElem?_append_right (by simp; omega)]
      simp only [List.length_replicate, List.getElem?_drop]
      congr 1
      omega
theorem own8 (w : World) : OwnS (w.alloc (.cells #[.int .u8 0, .int .u8 0, .int .u8 0, .int .u8 0, .int .u8 0, .int .u8 0, .int .u8 0, .int .u8 0] 5)) w.heap.size 5 (.slice (some ⟨w.heap.size, 0, none⟩) 8 8) (List.replicate 8 0) :=
  OwnS.of_own (l := List.replicate 8 0) (n := 8) (World.ownsRow_lit w #[.int .u8 0, .int .u8 0, .int .u8 0, .int .u8 0, .int .u8 0, .int .u8 0, .int .u8 0, .int .u8 0] 8 (Nat.le_refl _) (by simp [maxLen]) (by simp)) (fun x hx => by rw [(List.mem_replicate.1 hx).2]; omega)
/-- a row that is full -/
def FullP (l : List Int) (w : World) (e : Ending) (w' : World) : Prop := ∃ ao, e = .returned (.slice ao l.length l.length) ∧ OwnS w' w.heap.size 5 (.slice ao l.length l.length) l ∧ Below w.heap.size w w'
set_option maxRecDepth 100000 in
set_option maxHeartbeats 4000000 in
theorem eight_any (n : Nat) (w : World) (hn : n < 18446744073709551616) : Calls Try.prog 60 #[.int .u64 n] w (FullP (hiB n 8) w) := by
  have hmk : ∀ w, (Instr.makeSlice 25 (.int .i64 8) (.int .i64 8)).run Try.prog w = .ok (.slice (some ⟨w.heap.size, 0, none⟩) 8 8) (w.alloc (.cells #[.int .u8 0, .int .u8 0, .int .u8 0, .int .u8 0, .int .u8 0, .int .u8 0, .int .u8 0, .int .u8 0] 5)) := fun _ => by kernel_rfl
  have HN := Lib.hid hn
  clear hn
  go_enter Try.func60, Try.ntmps60
  go_wp2_with fail
  go_loopw [0, 4] (fun m i wr => ∃ j : Nat, j ≤ 8 ∧ i = .int .i64 ((j : Int) - 1) ∧ m = .int .u64 ((n / 256 ^ (8 - j) : Nat) : Int) ∧ Hid (OwnS wr w.heap.size 5 (.slice (some ⟨w.heap.size, 0, none⟩) 8 8) (List.replicate j 0 ++ (hiB n 8).drop j)) ∧ Hid (Below w.heap.size w wr)) (fun _ i _ => (intOf i + 1).toNat)
  case atStart => exact ⟨8, Nat.le_refl _, by go_num, by simp, by rw [List.drop_of_length_le (by rw [hiB_len]; exact Nat.le_refl _), List.append_nil]; exact own8 w, bel_alloc (Below.refl _ w) _⟩
  case round =>
    obtain ⟨j, hj, rfl, rfl, ho, hb⟩ := hrel
    rcases j with _ | q
    · have e0 : ((0 : Nat) : Int) - 1 = -1 := by omega
      rw [e0]
      clear e0
      go_wp2_with fail
      go_ret
      have h9 := ho.out
      rw [List.drop_zero] at h9
      exact ⟨some ⟨w.heap.size, 0, none⟩, by rw [hiB_len]; rfl, by rw [hiB_len]; simpa using h9, hb.out⟩
    · have e0 : ((q + 1 : Nat) : Int) - 1 = (q : Int) := by omega
      rw [e0]
      have hlen : (List.replicate (q + 1) (0 : Int) ++ (hiB n 8).drop (q + 1)).length = 8 := by rw [List.length_append, List.length_replicate, List.length_drop, hiB_len]; omega
      have HLEN := Lib.hid hlen
      obtain ⟨g, x, hg, hg1, hg2, -, hc, hf⟩ := ho.out.at_ (k := q) (by omega)
      cases hg
      have hx := hiB_at n 8 q (by omega)
      have ex : n / 256 ^ (8 - 1 - q) % 256 = n / 256 ^ (8 - (q + 1)) % 256 := by rw [show 8 - 1 - q = 8 - (q + 1) by omega]
      have hd : n / 256 ^ (8 - q) = n / 256 ^ (8 - (q + 1)) / 256 := by
        rw [Nat.div_div_eq_div_mul, ← Nat.pow_succ]
        congr 2
        omega
      have HX : Hid ((hiB n 8)[q]? = some (((n / 256 ^ (8 - (q + 1)) % 256 : Nat) : Int))) := Lib.hid (by rw [hx, ex])
      have HD := Lib.hid hd
      have hle : n / 256 ^ (8 - (q + 1)) ≤ n := Nat.div_le_self _ _
      have hn9 := HN.out
      clear hx ex hd hlen e0
      generalize n / 256 ^ (8 - (q + 1)) = m at *
      have q1 : Int.tmod (m : Int) 256 = ((m % 256 : Nat) : Int) := rfl
      have q2 : Int.tdiv (m : Int) 256 = ((m / 256 : Nat) : Int) := rfl
      have q3 := IntWalk.u8_in ((m % 256 : Nat) : Int) (by omega)
      have q4 := IntWalk.u64_in ((m % 256 : Nat) : Int) (by omega)
      have q5 := IntWalk.u64_in ((m / 256 : Nat) : Int) (by omega)
      have q6 := IntWalk.i64_in ((q : Int) - 1) (by omega)
      have q7 : (0 : Int) ≤ q := by omega
      have q8 : (q : Int) < 8 := by omega
      have HMB : Hid ((m % 256 : Nat) ≤ 255) := Lib.hid (by omega)
      go_wp2_with fail
      refine ⟨⟨q, by omega, by go_num, ?_, ?_, hb.out.setCell (p := ⟨w.heap.size, q, none⟩) (Nat.le_refl _) _⟩, ?_⟩
      · rw [HD.out]
        first | rfl | go_num
      · have hs := OwnS.stored (g := w.heap.size) (cap := 8) (k := q) (x := ((m % 256 : Nat) : Int)) (by rw [HLEN.out]; exact ho.out) (by rw [HLEN.out]; omega) ⟨by omega, by have := HMB.out; omega⟩
        rw [HLEN.out, fill_step HX.out] at hs
        exact hs
      · simp [intOf] <;> omega
end Ss
end Go.Proofs.Ytmojbamloanleaa
