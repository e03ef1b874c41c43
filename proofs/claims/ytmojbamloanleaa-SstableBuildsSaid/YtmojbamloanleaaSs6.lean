/- sstable: numbers in eight and four bytes, the program's (walks). -/
import Derived.Test.YtmojbamloanleaaSs5
set_option linter.unusedVariables false
set_option linter.unusedSimpArgs false
namespace Go.Proofs.Ytmojbamloanleaa
open Go.RowKit
namespace Ss
open Mt Codec
theorem shr_byte (n e m : Nat) (he : e = 8 * m) : ((n : Int) / 2 ^ e % 256) = ((n / 256 ^ m % 256 : Nat) : Int) := by
  subst he
  have h : (2 : Int) ^ (8 * m) = ((256 ^ m : Nat) : Int) := by
    have h2 : (2 : Nat) ^ (8 * m) = 256 ^ m := by rw [Nat.pow_mul]
    rw [← h2, Int.natCast_pow]
    rfl
  rw [h, Int.natCast_emod, Int.natCast_ediv]
  rfl
theorem fill_up {l : List Int} {k j : Nat} {x : Int} (hx : l[j]? = some x) (hl : l.length = k) : (l.take j ++ List.replicate (k - j) 0).set j x = l.take (j + 1) ++ List.replicate (k - (j + 1)) 0 := by
  have hj := (List.getElem?_eq_some_iff.1 hx).1
  apply List.ext_getElem?
  intro i
  by_cases hi : i = j
  · subst hi
    rw [List.getElem?_set_self (by simp; omega), List.getElem?_append_left (by simp; omega), List.getElem?_take, if_pos (by omega), hx]
  · rw [List.getElem?_set_ne (by omega)]
    by_cases h2 : i < j
    · rw [List.getElem?_append_left (by simp; omega), List.getElem?_append_left (by simp; omega), List.getElem?_take, List.getElem?_take, if_pos h2, if_pos (by omega)]
    · rw [List.getElem?_append_right (by simp; omega), List.getElem?_append_right (by simp; omega)]
      simp only [List.length_take, List.getElem?_replicate]
      have e : (i - min j l.length < k - j) ↔ (i - min (j + 1) l.length < k - (j + 1)) := by omega
      by_cases h3 : i - min j l.length < k - j
      · rw [if_pos h3, if_pos (e.1 h3)]
      · rw [if_neg h3, if_neg (fun h => h3 (e.2 h))]
theorem own8h (w : World) : OwnS (w.alloc (.cells #[.int .u8 0, .int .u8 0, .int .u8 0, .int .u8 0, .int .u8 0, .int .u8 0, .int .u8 0, .int .u8 0] 5)) w.heap.size 5 (.slice (some ⟨w.heap.size, 0, none⟩) 8 8) (List.replicate 8 0) :=
  OwnS.of_own (l := List.replicate 8 0) (n := 8) (World.ownsRow_lit w #[.int .u8 0, .int .u8 0, .int .u8 0, .int .u8 0, .int .u8 0, .int .u8 0, .int .u8 0, .int .u8 0] 8 (Nat.le_refl _) (by simp [maxLen]) (by simp)) (fun x hx => by rw [(List.mem_replicate.1 hx).2]; omega)
set_option maxRecDepth 100000 in
set_option maxHeartbeats 4000000 in
theorem high8_any (n : Nat) (w : World) (hn : n ≤ 9223372036854775807) : Calls Try.prog 69 #[.int .i64 n, .int .i64 8] w (LaidP (hiB n 8) w) := by
  have hmk : ∀ w, (Instr.makeSlice 25 (.int .i64 8) (.int .i64 8)).run Try.prog w = .ok (.slice (some ⟨w.heap.size, 0, none⟩) 8 8) (w.alloc (.cells #[.int .u8 0, .int .u8 0, .int .u8 0, .int .u8 0, .int .u8 0, .int .u8 0, .int .u8 0, .int .u8 0] 5)) := fun _ => by kernel_rfl
  have HN := Lib.hid hn
  clear hn
  go_enter Try.func69, Try.ntmps69
  go_wp2_with fail
  go_loopw [11] (fun i wr => ∃ j : Nat, j ≤ 8 ∧ i = .int .i64 j ∧ Hid (OwnS wr w.heap.size 5 (.slice (some ⟨w.heap.size, 0, none⟩) 8 8) ((hiB n 8).take j ++ List.replicate (8 - j) 0)) ∧ Hid (Below w.heap.size w wr)) (fun i _ => 8 - (intOf i).toNat)
  case atStart => exact ⟨0, Nat.zero_le _, rfl, own8h w, bel_alloc (Below.refl _ w) _⟩
  case round =>
    obtain ⟨j, hj, rfl, ho, hb⟩ := hrel
    by_cases hjk : j < 8
    · have hlen : ((hiB n 8).take j ++ List.replicate (8 - j) (0 : Int)).length = 8 := by rw [List.length_append, List.length_replicate, List.length_take, hiB_len]; omega
      have HLEN := Lib.hid hlen
      obtain ⟨g, x, hg, hg1, hg2, -, hc, hf⟩ := ho.out.at_ (k := j) (by omega)
      cases hg
      have HX := Lib.hid (hiB_at n 8 j hjk)
      have p0 : (j : Int) < 8 := by omega
      have p1 := IntWalk.i64_in ((j : Int) + 1) (by omega)
      have p2 := IntWalk.i64_in ((8 : Int) - 1 - j) (by omega)
      have p2' := IntWalk.i64_in (((8 - 1 : Nat) : Int) - j) (by omega)
      have p3 : ((8 : Int) - 1 - j) = ((8 - 1 - j : Nat) : Int) := by omega
      have p4 := IntWalk.i64_in (8 * ((8 - 1 - j : Nat) : Int)) (by omega)
      have HJ := Lib.hid hjk
      clear hjk hlen
      go_wp2_with fail
      refine ⟨⟨j + 1, by have := HJ.out; omega, by go_num, ?_, hb.out.setCell (p := ⟨w.heap.size, j, none⟩) (Nat.le_refl _) _⟩, ?_⟩
      · rw [shr_byte n (8 * (8 - 1 - j)) (8 - 1 - j) rfl]
        have hs := OwnS.stored (g := w.heap.size) (cap := 8) (k := j) (x := ((n / 256 ^ (8 - 1 - j) % 256 : Nat) : Int)) (by rw [HLEN.out]; exact ho.out) (by rw [HLEN.out]; exact HJ.out) ⟨by omega, by omega⟩
        rw [HLEN.out, fill_up HX.out (hiB_len n 8)] at hs
        exact hs
      · have := HJ.out
        simp [intOf] <;> omega
    · have hje : j = 8 := by omega
      subst hje
      have p0 : ¬ ((8 : Nat) : Int) < 8 := by omega
      clear hjk
      go_wp2_with fail
      go_ret
      have h9 := ho.out
      rw [List.take_of_length_le (by rw [hiB_len]; exact Nat.le_refl _), Nat.sub_self, List.replicate_zero, List.append_nil] at h9
      exact ⟨_, rfl, h9, hb.out⟩

theorem own4h (w : World) : OwnS (w.alloc (.cells #[.int .u8 0, .int .u8 0, .int .u8 0, .int .u8 0] 5)) w.heap.size 5 (.slice (some ⟨w.heap.size, 0, none⟩) 4 4) (List.replicate 4 0) :=
  OwnS.of_own (l := List.replicate 4 0) (n := 4) (World.ownsRow_lit w #[.int .u8 0, .int .u8 0, .int .u8 0, .int .u8 0] 4 (Nat.le_refl _) (by simp [maxLen]) (by simp)) (fun x hx => by rw [(List.mem_replicate.1 hx).2]; omega)
set_option maxRecDepth 100000 in
set_option maxHeartbeats 4000000 in
theorem high4_any (n : Nat) (w : World) (hn : n ≤ 9223372036854775807) : Calls Try.prog 69 #[.int .i64 n, .int .i64 4] w (LaidP (hiB n 4) w) := by
  have hmk : ∀ w, (Instr.makeSlice 25 (.int .i64 4) (.int .i64 4)).run Try.prog w = .ok (.slice (some ⟨w.heap.size, 0, none⟩) 4 4) (w.alloc (.cells #[.int .u8 0, .int .u8 0, .int .u8 0, .int .u8 0] 5)) := fun _ => by kernel_rfl
  have HN := Lib.hid hn
  clear hn
  go_enter Try.func69, Try.ntmps69
  go_wp2_with fail
  go_loopw [11] (fun i wr => ∃ j : Nat, j ≤ 4 ∧ i = .int .i64 j ∧ Hid (OwnS wr w.heap.size 5 (.slice (some ⟨w.heap.size, 0, none⟩) 4 4) ((hiB n 4).take j ++ List.replicate (4 - j) 0)) ∧ Hid (Below w.heap.size w wr)) (fun i _ => 4 - (intOf i).toNat)
  case atStart => exact ⟨0, Nat.zero_le _, rfl, own4h w, bel_alloc (Below.refl _ w) _⟩
  case round =>
    obtain ⟨j, hj, rfl, ho, hb⟩ := hrel
    by_cases hjk : j < 4
    · have hlen : ((hiB n 4).take j ++ List.replicate (4 - j) (0 : Int)).length = 4 := by rw [List.length_append, List.length_replicate, List.length_take, hiB_len]; omega
      have HLEN := Lib.hid hlen
      obtain ⟨g, x, hg, hg1, hg2, -, hc, hf⟩ := ho.out.at_ (k := j) (by omega)
      cases hg
      have HX := Lib.hid (hiB_at n 4 j hjk)
      have p0 : (j : Int) < 4 := by omega
      have p1 := IntWalk.i64_in ((j : Int) + 1) (by omega)
      have p2 := IntWalk.i64_in ((4 : Int) - 1 - j) (by omega)
      have p2' := IntWalk.i64_in (((4 - 1 : Nat) : Int) - j) (by omega)
      have p3 : ((4 : Int) - 1 - j) = ((4 - 1 - j : Nat) : Int) := by omega
      have p4 := IntWalk.i64_in (8 * ((4 - 1 - j : Nat) : Int)) (by omega)
      have HJ := Lib.hid hjk
      clear hjk hlen
      go_wp2_with fail
      refine ⟨⟨j + 1, by have := HJ.out; omega, by go_num, ?_, hb.out.setCell (p := ⟨w.heap.size, j, none⟩) (Nat.le_refl _) _⟩, ?_⟩
      · rw [shr_byte n (8 * (4 - 1 - j)) (4 - 1 - j) rfl]
        have hs := OwnS.stored (g := w.heap.size) (cap := 4) (k := j) (x := ((n / 256 ^ (4 - 1 - j) % 256 : Nat) : Int)) (by rw [HLEN.out]; exact ho.out) (by rw [HLEN.out]; exact HJ.out) ⟨by omega, by omega⟩
        rw [HLEN.out, fill_up HX.out (hiB_len n 4)] at hs
        exact hs
      · have := HJ.out
        simp [intOf] <;> omega
    · have hje : j = 4 := by omega
      subst hje
      have p0 : ¬ ((4 : Nat) : Int) < 4 := by omega
      clear hjk
      go_wp2_with fail
      go_ret
      have h9 := ho.out
      rw [List.take_of_length_le (by rw [hiB_len]; exact Nat.le_refl _), Nat.sub_self, List.replicate_zero, List.append_nil] at h9
      exact ⟨_, rfl, h9, hb.out⟩

end Ss
end Go.Proofs.Ytmojbamloanleaa
